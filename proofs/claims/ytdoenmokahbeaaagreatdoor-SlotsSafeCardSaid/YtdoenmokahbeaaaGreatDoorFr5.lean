/- Frames made. -/
import Derived.Test.YtdoenmokahbeaaaGreatDoorFr4
namespace Go.Proofs.YtdoenmokahbeaaaGreatDoor
open Go.RowKit
set_option linter.unusedVariables false
set_option linter.unusedSimpArgs false

set_option maxRecDepth 100000 in
set_option maxHeartbeats 4000000 in
theorem fMake_ok {p : List UInt8} {e n : Nat} (hp : p.length ≤ 43) (hpm : p.length ≤ 1000000) (he : e < 18446744073709551616) (hn : n < 18446744073709551616) (w : World) : Calls Tryz.prog 49 #[.agg #[.string ⟨p.toArray⟩, .int .u64 (e : Int), .int .u64 (n : Int)]] w fun e_ w' => e_ = .returned (.tuple #[.string ⟨(makeS p e n).toArray⟩, .int .i64 0]) ∧ Adds w w' := by
  have K : Keeps (fun _ => False) w w := Keeps.refl _ w
  refine Calls.start Tryz.func49 rfl (by kernel_rfl) ?_
  refine WC.seq ?_
  refine WC.region ?_
  refine WL.new (d := 1) (T := 96) #[.string ⟨(p).toArray⟩, .int .u64 ((e : Nat) : Int), .int .u64 ((n : Nat) : Int)] (k := fun b1 w2 g3 hb4 k5 => ?_)
  have z6 := Nat.le_trans K.size g3
  replace K := K.trans (k5.any _)
  refine WL.op (d := 2) (.string ⟨#[]⟩) (k := ?_)
  refine WL.op (d := 3) (.int .i64 0) (k := ?_)
  refine WL.nil ?_
  refine WX.seqN ?_
  refine WC.seq ?_
  refine WC.seq ?_
  refine WC.region ?_
  refine WL.op (d := 7) (.pointer (some ⟨b1, 0, none⟩)) (k := ?_)
  refine WL.load (v := .string ⟨(p).toArray⟩) (ld1 (T := 9) (i := 0) hb4) (k := ?_)
  refine WL.op (d := 9) (.int .i64 (p.length : Int)) (k := ?_)
  refine WL.op (d := 10) (.bool (decide ((p.length : Int) > 43))) (k := ?_)
  refine WL.nil ?_
  refine WX.seqN ?_
  refine WC.cond (b := decide ((p.length : Int) > 43)) (ht := fun h7 => ?_) (hf := fun h7 => ?_)
  · have ph7 := of_decide_eq_true h7
    refine WC.seq ?_
    refine WC.region ?_
    refine WL.op (d := 2) (.string ⟨#[]⟩) (k := ?_)
    refine WL.op (d := 3) (.int .i64 1) (k := ?_)
    refine WL.nil ?_
    refine WX.seqN ?_
    refine WC.ret ?_
    refine WX.seqR ?_
    refine WX.ret (rs := [.tmp 2, .tmp 3]) [.string ⟨#[]⟩, .int .i64 1] (.tuple #[.string ⟨#[]⟩, .int .i64 1]) ⟨(by kernel_rfl), (by kernel_rfl), trivial⟩ (k := ?_)
    exfalso; omega
  · have ph7 := of_decide_eq_false h7
    refine WC.skip ?_
    refine WX.seqN ?_
    refine WC.seq ?_
    refine WC.region ?_
    refine WL.op (d := 11) (.pointer (some ⟨b1, 1, none⟩)) (k := ?_)
    refine WL.load (v := .int .u64 ((e : Nat) : Int)) (ld1 (T := 29) (i := 1) hb4) (k := ?_)
    refine WL.op (d := 13) (.pointer (some ⟨b1, 2, none⟩)) (k := ?_)
    refine WL.load (v := .int .u64 ((n : Nat) : Int)) (ld1 (T := 29) (i := 2) hb4) (k := ?_)
    refine WL.newF (d := 15) (T := 29) #[.int .u64 ((e : Nat) : Int), .int .u64 ((n : Nat) : Int)] (fun b => .slice (some ⟨b, 0, none⟩) 2 2) (k := fun b8 w9 g10 hb11 k12 => ?_)
    have z13 := Nat.le_trans K.size g10
    have n14 : b1 ≠ b8 := Nat.ne_of_lt (Nat.lt_of_lt_of_le (lt_of_heap hb4) g10)
    replace hb4 := k12.heap hb4 id
    replace K := K.trans (k12.any _)
    refine WL.callG (d := 16) (f := 64) (args := #[.slice (some ⟨b8, 0, none⟩) 2 2]) (fTags2_c (e := e) (n := n) hb11) (k := fun e_ w16 h_ => ⟨.string ⟨(tagsS e n).toArray⟩, h_.1, ?_⟩)
    have k17 := h_.2; clear h_
    replace hb4 := k17.heap hb4 id
    replace hb11 := k17.heap hb11 id
    replace K := K.trans (k17.any _)
    have tl15 := tagsS_len e n
    refine WL.op (d := 4) (.string ⟨(tagsS e n).toArray⟩) (k := ?_)
    refine WL.nil ?_
    refine WX.seqN ?_
    refine WC.seq ?_
    refine WC.mixed (fun _ => False) 6 (k := fun w18 k19 => ?_)
    replace hb4 := k19.heap hb4 id
    replace hb11 := k19.heap hb11 id
    replace K := K.trans (k19.any _)
    have KC := Keeps.refl (fun _ => False) w18
    have bh20 := hb4
    have bh21 := hb11
    have Kb := K
    refine WA.quiet 1 (d := 18) (.pointer (some ⟨b1, 0, none⟩)) KC (hi := rfl) (k := ?_)
    refine WA.quietR 2 (d := 19) (.string ⟨(p).toArray⟩) KC (exec_load (fun w_ k_ => ld1 (T := 9) (i := 0) (k_.heap bh20 id))) (hi := rfl) (k := ?_)
    refine WA.quiet 3 (d := 20) (.string ⟨(tagsS e n).toArray⟩) KC (hi := rfl) (k := ?_)
    refine WA.quietR 4 (d := 21) (.string ⟨(p ++ (tagsS e n)).toArray⟩) KC (exec_bin (fun _ => cat_run (by (try simp only [List.length_append, List.length_cons, List.length_nil, List.length_replicate, be_len]); omega))) (hi := rfl) (k := ?_)
    refine WA.step 0 (hi := rfl) (k := ?_)
    refine WL.callG (d := 17) (f := 65) (args := #[]) (cNew_c w18) (k := fun e_ w22 h_ => ?_)
    obtain ⟨b23, g24, rfl, ht25, k26⟩ := h_
    refine ⟨_, rfl, ?_⟩
    have z27 := Nat.le_trans K.size g24
    have zc28 := Nat.le_trans KC.size g24
    have n29 : b1 ≠ b23 := Nat.ne_of_lt (Nat.lt_of_lt_of_le (lt_of_heap hb4) g24)
    have n30 : b8 ≠ b23 := Nat.ne_of_lt (Nat.lt_of_lt_of_le (lt_of_heap hb11) g24)
    replace hb4 := k26.heap hb4 id
    replace hb11 := k26.heap hb11 id
    replace K := K.trans (k26.any _)
    replace KC := KC.trans (k26.any _)
    refine WL.nil ?_
    refine WX.nxt KC ?_
    refine WA.step 5 (hi := rfl) (k := ?_)
    refine WL.callG (d := 22) (f := 66) (args := #[.pointer (some ⟨b23, 0, none⟩), .string ⟨(p ++ (tagsS e n)).toArray⟩]) (cSum_c (l := p ++ (tagsS e n)) ht25 (by show List.length (p ++ (tagsS e n)) ≤ _; first | omega | (simp; done) | (simp; omega))) (k := fun e_ w31 h_ => ?_)
    obtain ⟨rfl, k32⟩ := h_
    refine ⟨_, rfl, ?_⟩
    replace hb4 := k32.heap hb4 n29
    replace hb11 := k32.heap hb11 n30
    replace K := K.trans' k32 (fun i hi e => absurd (e ▸ hi) (Nat.not_lt.2 z27))
    replace KC := KC.trans' k32 (fun i hi e => absurd (e ▸ hi) (Nat.not_lt.2 zc28))
    clear ht25
    have cl33 := crc_lt (p ++ (tagsS e n))
    refine WL.nil ?_
    refine WX.nxt KC ?_
    refine WA.step 6 (hi := rfl) (k := ?_)
    refine WL.op (d := 5) (.int .u32 ((crc (p ++ (tagsS e n)) : Nat) : Int)) (k := ?_)
    refine WL.nil ?_
    refine WX.nxtL ?_
    refine WA.done (k := ?_)
    clear KC
    refine WX.seqN ?_
    refine WC.seq ?_
    refine WC.region ?_
    refine WL.op (d := 23) (.pointer (some ⟨b1, 0, none⟩)) (k := ?_)
    refine WL.load (v := .string ⟨(p).toArray⟩) (ld1 (T := 9) (i := 0) hb4) (k := ?_)
    refine WL.op (d := 25) (.int .i64 (p.length : Int)) (k := ?_)
    refine WL.opE (d := 26) (.int .i64 (IntKind.i64.wrap (43 - (p.length : Int)))) (v := .int .i64 (43 - (p.length : Int))) (congrArg (Value.int .i64) (IntWalk.i64_in _ (by omega))) (k := ?_)
    refine WL.callG (d := 27) (f := 67) (args := #[.string ⟨#[0]⟩, .int .i64 (43 - (p.length : Int))]) (repeat0_c (x := 43 - (p.length : Int)) (by omega) (by omega) w31) (k := fun e_ w34 h_ => ⟨.string ⟨(List.replicate (43 - (p.length : Int)).toNat (0 : UInt8)).toArray⟩, h_.1, ?_⟩)
    have k35 := h_.2; clear h_
    replace hb4 := k35.heap hb4 id
    replace hb11 := k35.heap hb11 id
    replace K := K.trans (k35.any _)
    refine WL.op (d := 6) (.string ⟨(List.replicate (43 - (p.length : Int)).toNat (0 : UInt8)).toArray⟩) (k := ?_)
    refine WL.nil ?_
    refine WX.seqN ?_
    refine WC.seq ?_
    refine WC.mixed (fun _ => False) 17 (k := fun w36 k37 => ?_)
    replace hb4 := k37.heap hb4 id
    replace hb11 := k37.heap hb11 id
    replace K := K.trans (k37.any _)
    have KC := Keeps.refl (fun _ => False) w36
    have bh38 := hb4
    have bh39 := hb11
    have Kb := K
    refine WA.quiet 0 (d := 28) (.pointer (some ⟨b1, 0, none⟩)) KC (hi := rfl) (k := ?_)
    refine WA.quietR 1 (d := 29) (.string ⟨(p).toArray⟩) KC (exec_load (fun w_ k_ => ld1 (T := 9) (i := 0) (k_.heap bh38 id))) (hi := rfl) (k := ?_)
    refine WA.quiet 2 (d := 30) (.int .i64 (p.length : Int)) KC (hi := rfl) (k := ?_)
    have ub40 := u8_lt (UInt8.ofNat ((p.length) % 256))
    refine WA.quiet 3 (d := 31) (.int .u8 (IntKind.u8.wrap (p.length : Int))) KC (hi := rfl) (k := ?_)
    refine WA.rw (t := 31) (v := .int .u8 ((UInt8.ofNat ((p.length) % 256)).toNat : Int)) (congrArg (Value.int .u8) (byte_nat (p.length))) (k := ?_)
    refine WA.quiet 6 (d := 34) (.int .u32 ((crc (p ++ (tagsS e n)) : Nat) : Int)) KC (hi := rfl) (k := ?_)
    refine WA.quiet 9 (d := 37) (.pointer (some ⟨b1, 0, none⟩)) KC (hi := rfl) (k := ?_)
    refine WA.quietR 10 (d := 38) (.string ⟨(p).toArray⟩) KC (exec_load (fun w_ k_ => ld1 (T := 9) (i := 0) (k_.heap bh38 id))) (hi := rfl) (k := ?_)
    refine WA.quiet 12 (d := 40) (.string ⟨(List.replicate (43 - (p.length : Int)).toNat (0 : UInt8)).toArray⟩) KC (hi := rfl) (k := ?_)
    refine WA.quiet 14 (d := 42) (.string ⟨(tagsS e n).toArray⟩) KC (hi := rfl) (k := ?_)
    refine WA.step2 4 7 (hi := rfl) (hj := rfl) (k1 := ?_) (k2 := ?_)
    · refine WL.newF (d := 32) (T := 5) #[.int .u8 ((UInt8.ofNat ((p.length) % 256)).toNat : Int)] (fun b => .slice (some ⟨b, 0, none⟩) 1 1) (k := fun b41 w42 g43 hb44 k45 => ?_)
      have z46 := Nat.le_trans K.size g43
      have zc47 := Nat.le_trans KC.size g43
      have n48 : b1 ≠ b41 := Nat.ne_of_lt (Nat.lt_of_lt_of_le (lt_of_heap hb4) g43)
      have n49 : b8 ≠ b41 := Nat.ne_of_lt (Nat.lt_of_lt_of_le (lt_of_heap hb11) g43)
      replace hb4 := k45.heap hb4 id
      replace hb11 := k45.heap hb11 id
      replace K := K.trans (k45.any _)
      replace KC := KC.trans (k45.any _)
      refine WL.nil ?_
      refine WX.nxt KC ?_
      refine WA.step2 5 7 (hi := rfl) (hj := rfl) (k1 := ?_) (k2 := ?_)
      · refine WL.conv (d := 33) (vx := .slice (some ⟨b41, 0, none⟩) 1 1) (v := .string ⟨#[(UInt8.ofNat ((p.length) % 256))]⟩) (run_ofBytes (T := 87) (S := 9) (E := 5) (l := [(UInt8.ofNat ((p.length) % 256))]) (by kernel_rfl) (by kernel_rfl) (by kernel_rfl) hb44 rfl (by kernel_rfl)) (k := ?_)
        refine WL.nil ?_
        refine WX.nxt KC ?_
        refine WA.step 7 (hi := rfl) (k := ?_)
        refine WL.callG (d := 35) (f := 68) (args := #[.int .u32 ((crc (p ++ (tagsS e n)) : Nat) : Int)]) (cBytes_c (n := crc (p ++ (tagsS e n))) (by omega) w42) (k := fun e_ w50 h_ => ⟨.string ⟨(be 4 (crc (p ++ (tagsS e n)))).toArray⟩, h_.1, ?_⟩)
        have k51 := h_.2; clear h_
        replace hb4 := k51.heap hb4 id
        replace hb11 := k51.heap hb11 id
        replace hb44 := k51.heap hb44 id
        replace K := K.trans (k51.any _)
        replace KC := KC.trans (k51.any _)
        refine WL.nil ?_
        refine WX.nxt KC ?_
        refine WA.quietR 8 (d := 36) (.string ⟨([(UInt8.ofNat ((p.length) % 256))] ++ (be 4 (crc (p ++ (tagsS e n))))).toArray⟩) KC (exec_bin (fun _ => cat_run (by (try simp only [List.length_append, List.length_cons, List.length_nil, List.length_replicate, be_len]); omega))) (hi := rfl) (k := ?_)
        refine WA.quietR 11 (d := 39) (.string ⟨([(UInt8.ofNat ((p.length) % 256))] ++ (be 4 (crc (p ++ (tagsS e n)))) ++ p).toArray⟩) KC (exec_bin (fun _ => cat_run (by (try simp only [List.length_append, List.length_cons, List.length_nil, List.length_replicate, be_len]); omega))) (hi := rfl) (k := ?_)
        refine WA.quietR 13 (d := 41) (.string ⟨([(UInt8.ofNat ((p.length) % 256))] ++ (be 4 (crc (p ++ (tagsS e n)))) ++ p ++ (List.replicate (43 - (p.length : Int)).toNat (0 : UInt8))).toArray⟩) KC (exec_bin (fun _ => cat_run (by (try simp only [List.length_append, List.length_cons, List.length_nil, List.length_replicate, be_len]); omega))) (hi := rfl) (k := ?_)
        refine WA.quietR 15 (d := 43) (.string ⟨([(UInt8.ofNat ((p.length) % 256))] ++ (be 4 (crc (p ++ (tagsS e n)))) ++ p ++ (List.replicate (43 - (p.length : Int)).toNat (0 : UInt8)) ++ (tagsS e n)).toArray⟩) KC (exec_bin (fun _ => cat_run (by (try simp only [List.length_append, List.length_cons, List.length_nil, List.length_replicate, be_len]); omega))) (hi := rfl) (k := ?_)
        refine WA.quiet 16 (d := 2) (.string ⟨([(UInt8.ofNat ((p.length) % 256))] ++ (be 4 (crc (p ++ (tagsS e n)))) ++ p ++ (List.replicate (43 - (p.length : Int)).toNat (0 : UInt8)) ++ (tagsS e n)).toArray⟩) KC (hi := rfl) (k := ?_)
        refine WA.step 17 (hi := rfl) (k := ?_)
        refine WL.op (d := 3) (.int .i64 0) (k := ?_)
        refine WL.nil ?_
        refine WX.nxtL ?_
        refine WA.done (k := ?_)
        clear KC
        refine WX.seqN ?_
        refine WC.ret ?_
        refine WX.ret (rs := [.tmp 2, .tmp 3]) [.string ⟨([(UInt8.ofNat ((p.length) % 256))] ++ (be 4 (crc (p ++ (tagsS e n)))) ++ p ++ (List.replicate (43 - (p.length : Int)).toNat (0 : UInt8)) ++ (tagsS e n)).toArray⟩, .int .i64 0] (.tuple #[.string ⟨([(UInt8.ofNat ((p.length) % 256))] ++ (be 4 (crc (p ++ (tagsS e n)))) ++ p ++ (List.replicate (43 - (p.length : Int)).toNat (0 : UInt8)) ++ (tagsS e n)).toArray⟩, .int .i64 0]) ⟨(by kernel_rfl), (by kernel_rfl), trivial⟩ (k := ?_)
        have e_ : [(UInt8.ofNat ((p.length) % 256))] ++ (be 4 (crc (p ++ (tagsS e n)))) ++ p ++ (List.replicate (43 - (p.length : Int)).toNat (0 : UInt8)) ++ (tagsS e n) = makeS p e n := by simp [makeS, Nat.mod_eq_of_lt (show p.length < 256 by omega), show (43 - (p.length : Int)).toNat = 43 - p.length by omega]
        exact ⟨by rw [e_], K⟩
      · refine WL.callG (d := 35) (f := 68) (args := #[.int .u32 ((crc (p ++ (tagsS e n)) : Nat) : Int)]) (cBytes_c (n := crc (p ++ (tagsS e n))) (by omega) w42) (k := fun e_ w52 h_ => ⟨.string ⟨(be 4 (crc (p ++ (tagsS e n)))).toArray⟩, h_.1, ?_⟩)
        have k53 := h_.2; clear h_
        replace hb4 := k53.heap hb4 id
        replace hb11 := k53.heap hb11 id
        replace hb44 := k53.heap hb44 id
        replace K := K.trans (k53.any _)
        replace KC := KC.trans (k53.any _)
        refine WL.nil ?_
        refine WX.nxt KC ?_
        refine WA.step 5 (hi := rfl) (k := ?_)
        refine WL.conv (d := 33) (vx := .slice (some ⟨b41, 0, none⟩) 1 1) (v := .string ⟨#[(UInt8.ofNat ((p.length) % 256))]⟩) (run_ofBytes (T := 87) (S := 9) (E := 5) (l := [(UInt8.ofNat ((p.length) % 256))]) (by kernel_rfl) (by kernel_rfl) (by kernel_rfl) hb44 rfl (by kernel_rfl)) (k := ?_)
        refine WL.nil ?_
        refine WX.nxt KC ?_
        refine WA.quietR 8 (d := 36) (.string ⟨([(UInt8.ofNat ((p.length) % 256))] ++ (be 4 (crc (p ++ (tagsS e n))))).toArray⟩) KC (exec_bin (fun _ => cat_run (by (try simp only [List.length_append, List.length_cons, List.length_nil, List.length_replicate, be_len]); omega))) (hi := rfl) (k := ?_)
        refine WA.quietR 11 (d := 39) (.string ⟨([(UInt8.ofNat ((p.length) % 256))] ++ (be 4 (crc (p ++ (tagsS e n)))) ++ p).toArray⟩) KC (exec_bin (fun _ => cat_run (by (try simp only [List.length_append, List.length_cons, List.length_nil, List.length_replicate, be_len]); omega))) (hi := rfl) (k := ?_)
        refine WA.quietR 13 (d := 41) (.string ⟨([(UInt8.ofNat ((p.length) % 256))] ++ (be 4 (crc (p ++ (tagsS e n)))) ++ p ++ (List.replicate (43 - (p.length : Int)).toNat (0 : UInt8))).toArray⟩) KC (exec_bin (fun _ => cat_run (by (try simp only [List.length_append, List.length_cons, List.length_nil, List.length_replicate, be_len]); omega))) (hi := rfl) (k := ?_)
        refine WA.quietR 15 (d := 43) (.string ⟨([(UInt8.ofNat ((p.length) % 256))] ++ (be 4 (crc (p ++ (tagsS e n)))) ++ p ++ (List.replicate (43 - (p.length : Int)).toNat (0 : UInt8)) ++ (tagsS e n)).toArray⟩) KC (exec_bin (fun _ => cat_run (by (try simp only [List.length_append, List.length_cons, List.length_nil, List.length_replicate, be_len]); omega))) (hi := rfl) (k := ?_)
        refine WA.quiet 16 (d := 2) (.string ⟨([(UInt8.ofNat ((p.length) % 256))] ++ (be 4 (crc (p ++ (tagsS e n)))) ++ p ++ (List.replicate (43 - (p.length : Int)).toNat (0 : UInt8)) ++ (tagsS e n)).toArray⟩) KC (hi := rfl) (k := ?_)
        refine WA.step 17 (hi := rfl) (k := ?_)
        refine WL.op (d := 3) (.int .i64 0) (k := ?_)
        refine WL.nil ?_
        refine WX.nxtL ?_
        refine WA.done (k := ?_)
        clear KC
        refine WX.seqN ?_
        refine WC.ret ?_
        refine WX.ret (rs := [.tmp 2, .tmp 3]) [.string ⟨([(UInt8.ofNat ((p.length) % 256))] ++ (be 4 (crc (p ++ (tagsS e n)))) ++ p ++ (List.replicate (43 - (p.length : Int)).toNat (0 : UInt8)) ++ (tagsS e n)).toArray⟩, .int .i64 0] (.tuple #[.string ⟨([(UInt8.ofNat ((p.length) % 256))] ++ (be 4 (crc (p ++ (tagsS e n)))) ++ p ++ (List.replicate (43 - (p.length : Int)).toNat (0 : UInt8)) ++ (tagsS e n)).toArray⟩, .int .i64 0]) ⟨(by kernel_rfl), (by kernel_rfl), trivial⟩ (k := ?_)
        have e_ : [(UInt8.ofNat ((p.length) % 256))] ++ (be 4 (crc (p ++ (tagsS e n)))) ++ p ++ (List.replicate (43 - (p.length : Int)).toNat (0 : UInt8)) ++ (tagsS e n) = makeS p e n := by simp [makeS, Nat.mod_eq_of_lt (show p.length < 256 by omega), show (43 - (p.length : Int)).toNat = 43 - p.length by omega]
        exact ⟨by rw [e_], K⟩
    · refine WL.callG (d := 35) (f := 68) (args := #[.int .u32 ((crc (p ++ (tagsS e n)) : Nat) : Int)]) (cBytes_c (n := crc (p ++ (tagsS e n))) (by omega) w36) (k := fun e_ w54 h_ => ⟨.string ⟨(be 4 (crc (p ++ (tagsS e n)))).toArray⟩, h_.1, ?_⟩)
      have k55 := h_.2; clear h_
      replace hb4 := k55.heap hb4 id
      replace hb11 := k55.heap hb11 id
      replace K := K.trans (k55.any _)
      replace KC := KC.trans (k55.any _)
      refine WL.nil ?_
      refine WX.nxt KC ?_
      refine WA.step 4 (hi := rfl) (k := ?_)
      refine WL.newF (d := 32) (T := 5) #[.int .u8 ((UInt8.ofNat ((p.length) % 256)).toNat : Int)] (fun b => .slice (some ⟨b, 0, none⟩) 1 1) (k := fun b56 w57 g58 hb59 k60 => ?_)
      have z61 := Nat.le_trans K.size g58
      have zc62 := Nat.le_trans KC.size g58
      have n63 : b1 ≠ b56 := Nat.ne_of_lt (Nat.lt_of_lt_of_le (lt_of_heap hb4) g58)
      have n64 : b8 ≠ b56 := Nat.ne_of_lt (Nat.lt_of_lt_of_le (lt_of_heap hb11) g58)
      replace hb4 := k60.heap hb4 id
      replace hb11 := k60.heap hb11 id
      replace K := K.trans (k60.any _)
      replace KC := KC.trans (k60.any _)
      refine WL.nil ?_
      refine WX.nxt KC ?_
      refine WA.step 5 (hi := rfl) (k := ?_)
      refine WL.conv (d := 33) (vx := .slice (some ⟨b56, 0, none⟩) 1 1) (v := .string ⟨#[(UInt8.ofNat ((p.length) % 256))]⟩) (run_ofBytes (T := 87) (S := 9) (E := 5) (l := [(UInt8.ofNat ((p.length) % 256))]) (by kernel_rfl) (by kernel_rfl) (by kernel_rfl) hb59 rfl (by kernel_rfl)) (k := ?_)
      refine WL.nil ?_
      refine WX.nxt KC ?_
      refine WA.quietR 8 (d := 36) (.string ⟨([(UInt8.ofNat ((p.length) % 256))] ++ (be 4 (crc (p ++ (tagsS e n))))).toArray⟩) KC (exec_bin (fun _ => cat_run (by (try simp only [List.length_append, List.length_cons, List.length_nil, List.length_replicate, be_len]); omega))) (hi := rfl) (k := ?_)
      refine WA.quietR 11 (d := 39) (.string ⟨([(UInt8.ofNat ((p.length) % 256))] ++ (be 4 (crc (p ++ (tagsS e n)))) ++ p).toArray⟩) KC (exec_bin (fun _ => cat_run (by (try simp only [List.length_append, List.length_cons, List.length_nil, List.length_replicate, be_len]); omega))) (hi := rfl) (k := ?_)
      refine WA.quietR 13 (d := 41) (.string ⟨([(UInt8.ofNat ((p.length) % 256))] ++ (be 4 (crc (p ++ (tagsS e n)))) ++ p ++ (List.replicate (43 - (p.length : Int)).toNat (0 : UInt8))).toArray⟩) KC (exec_bin (fun _ => cat_run (by (try simp only [List.length_append, List.length_cons, List.length_nil, List.length_replicate, be_len]); omega))) (hi := rfl) (k := ?_)
      refine WA.quietR 15 (d := 43) (.string ⟨([(UInt8.ofNat ((p.length) % 256))] ++ (be 4 (crc (p ++ (tagsS e n)))) ++ p ++ (List.replicate (43 - (p.length : Int)).toNat (0 : UInt8)) ++ (tagsS e n)).toArray⟩) KC (exec_bin (fun _ => cat_run (by (try simp only [List.length_append, List.length_cons, List.length_nil, List.length_replicate, be_len]); omega))) (hi := rfl) (k := ?_)
      refine WA.quiet 16 (d := 2) (.string ⟨([(UInt8.ofNat ((p.length) % 256))] ++ (be 4 (crc (p ++ (tagsS e n)))) ++ p ++ (List.replicate (43 - (p.length : Int)).toNat (0 : UInt8)) ++ (tagsS e n)).toArray⟩) KC (hi := rfl) (k := ?_)
      refine WA.step 17 (hi := rfl) (k := ?_)
      refine WL.op (d := 3) (.int .i64 0) (k := ?_)
      refine WL.nil ?_
      refine WX.nxtL ?_
      refine WA.done (k := ?_)
      clear KC
      refine WX.seqN ?_
      refine WC.ret ?_
      refine WX.ret (rs := [.tmp 2, .tmp 3]) [.string ⟨([(UInt8.ofNat ((p.length) % 256))] ++ (be 4 (crc (p ++ (tagsS e n)))) ++ p ++ (List.replicate (43 - (p.length : Int)).toNat (0 : UInt8)) ++ (tagsS e n)).toArray⟩, .int .i64 0] (.tuple #[.string ⟨([(UInt8.ofNat ((p.length) % 256))] ++ (be 4 (crc (p ++ (tagsS e n)))) ++ p ++ (List.replicate (43 - (p.length : Int)).toNat (0 : UInt8)) ++ (tagsS e n)).toArray⟩, .int .i64 0]) ⟨(by kernel_rfl), (by kernel_rfl), trivial⟩ (k := ?_)
      have e_ : [(UInt8.ofNat ((p.length) % 256))] ++ (be 4 (crc (p ++ (tagsS e n)))) ++ p ++ (List.replicate (43 - (p.length : Int)).toNat (0 : UInt8)) ++ (tagsS e n) = makeS p e n := by simp [makeS, Nat.mod_eq_of_lt (show p.length < 256 by omega), show (43 - (p.length : Int)).toNat = 43 - p.length by omega]
      exact ⟨by rw [e_], K⟩

set_option maxRecDepth 100000 in
set_option maxHeartbeats 4000000 in
theorem fMake_no {p : List UInt8} {e n : Nat} (hp : ¬ p.length ≤ 43) (hpm : p.length ≤ 1000000) (he : e < 18446744073709551616) (hn : n < 18446744073709551616) (w : World) : Calls Tryz.prog 49 #[.agg #[.string ⟨p.toArray⟩, .int .u64 (e : Int), .int .u64 (n : Int)]] w fun e_ w' => e_ = .returned (.tuple #[.string ⟨([] : List UInt8).toArray⟩, .int .i64 1]) ∧ Adds w w' := by
  have K : Keeps (fun _ => False) w w := Keeps.refl _ w
  refine Calls.start Tryz.func49 rfl (by kernel_rfl) ?_
  refine WC.seq ?_
  refine WC.region ?_
  refine WL.new (d := 1) (T := 96) #[.string ⟨(p).toArray⟩, .int .u64 ((e : Nat) : Int), .int .u64 ((n : Nat) : Int)] (k := fun b1 w2 g3 hb4 k5 => ?_)
  have z6 := Nat.le_trans K.size g3
  replace K := K.trans (k5.any _)
  refine WL.op (d := 2) (.string ⟨#[]⟩) (k := ?_)
  refine WL.op (d := 3) (.int .i64 0) (k := ?_)
  refine WL.nil ?_
  refine WX.seqN ?_
  refine WC.seq ?_
  refine WC.seq ?_
  refine WC.region ?_
  refine WL.op (d := 7) (.pointer (some ⟨b1, 0, none⟩)) (k := ?_)
  refine WL.load (v := .string ⟨(p).toArray⟩) (ld1 (T := 9) (i := 0) hb4) (k := ?_)
  refine WL.op (d := 9) (.int .i64 (p.length : Int)) (k := ?_)
  refine WL.op (d := 10) (.bool (decide ((p.length : Int) > 43))) (k := ?_)
  refine WL.nil ?_
  refine WX.seqN ?_
  refine WC.cond (b := decide ((p.length : Int) > 43)) (ht := fun h7 => ?_) (hf := fun h7 => ?_)
  · have ph7 := of_decide_eq_true h7
    refine WC.seq ?_
    refine WC.region ?_
    refine WL.op (d := 2) (.string ⟨#[]⟩) (k := ?_)
    refine WL.op (d := 3) (.int .i64 1) (k := ?_)
    refine WL.nil ?_
    refine WX.seqN ?_
    refine WC.ret ?_
    refine WX.seqR ?_
    refine WX.ret (rs := [.tmp 2, .tmp 3]) [.string ⟨#[]⟩, .int .i64 1] (.tuple #[.string ⟨#[]⟩, .int .i64 1]) ⟨(by kernel_rfl), (by kernel_rfl), trivial⟩ (k := ?_)
    exact ⟨rfl, K⟩
  · have ph7 := of_decide_eq_false h7
    refine WC.skip ?_
    refine WX.seqN ?_
    refine WC.seq ?_
    refine WC.region ?_
    refine WL.op (d := 11) (.pointer (some ⟨b1, 1, none⟩)) (k := ?_)
    refine WL.load (v := .int .u64 ((e : Nat) : Int)) (ld1 (T := 29) (i := 1) hb4) (k := ?_)
    refine WL.op (d := 13) (.pointer (some ⟨b1, 2, none⟩)) (k := ?_)
    refine WL.load (v := .int .u64 ((n : Nat) : Int)) (ld1 (T := 29) (i := 2) hb4) (k := ?_)
    refine WL.newF (d := 15) (T := 29) #[.int .u64 ((e : Nat) : Int), .int .u64 ((n : Nat) : Int)] (fun b => .slice (some ⟨b, 0, none⟩) 2 2) (k := fun b8 w9 g10 hb11 k12 => ?_)
    have z13 := Nat.le_trans K.size g10
    have n14 : b1 ≠ b8 := Nat.ne_of_lt (Nat.lt_of_lt_of_le (lt_of_heap hb4) g10)
    replace hb4 := k12.heap hb4 id
    replace K := K.trans (k12.any _)
    refine WL.callG (d := 16) (f := 64) (args := #[.slice (some ⟨b8, 0, none⟩) 2 2]) (fTags2_c (e := e) (n := n) hb11) (k := fun e_ w16 h_ => ⟨.string ⟨(tagsS e n).toArray⟩, h_.1, ?_⟩)
    have k17 := h_.2; clear h_
    replace hb4 := k17.heap hb4 id
    replace hb11 := k17.heap hb11 id
    replace K := K.trans (k17.any _)
    have tl15 := tagsS_len e n
    refine WL.op (d := 4) (.string ⟨(tagsS e n).toArray⟩) (k := ?_)
    refine WL.nil ?_
    refine WX.seqN ?_
    refine WC.seq ?_
    refine WC.mixed (fun _ => False) 6 (k := fun w18 k19 => ?_)
    replace hb4 := k19.heap hb4 id
    replace hb11 := k19.heap hb11 id
    replace K := K.trans (k19.any _)
    have KC := Keeps.refl (fun _ => False) w18
    have bh20 := hb4
    have bh21 := hb11
    have Kb := K
    refine WA.quiet 1 (d := 18) (.pointer (some ⟨b1, 0, none⟩)) KC (hi := rfl) (k := ?_)
    refine WA.quietR 2 (d := 19) (.string ⟨(p).toArray⟩) KC (exec_load (fun w_ k_ => ld1 (T := 9) (i := 0) (k_.heap bh20 id))) (hi := rfl) (k := ?_)
    refine WA.quiet 3 (d := 20) (.string ⟨(tagsS e n).toArray⟩) KC (hi := rfl) (k := ?_)
    refine WA.quietR 4 (d := 21) (.string ⟨(p ++ (tagsS e n)).toArray⟩) KC (exec_bin (fun _ => cat_run (by (try simp only [List.length_append, List.length_cons, List.length_nil, List.length_replicate, be_len]); omega))) (hi := rfl) (k := ?_)
    refine WA.step 0 (hi := rfl) (k := ?_)
    refine WL.callG (d := 17) (f := 65) (args := #[]) (cNew_c w18) (k := fun e_ w22 h_ => ?_)
    obtain ⟨b23, g24, rfl, ht25, k26⟩ := h_
    refine ⟨_, rfl, ?_⟩
    have z27 := Nat.le_trans K.size g24
    have zc28 := Nat.le_trans KC.size g24
    have n29 : b1 ≠ b23 := Nat.ne_of_lt (Nat.lt_of_lt_of_le (lt_of_heap hb4) g24)
    have n30 : b8 ≠ b23 := Nat.ne_of_lt (Nat.lt_of_lt_of_le (lt_of_heap hb11) g24)
    replace hb4 := k26.heap hb4 id
    replace hb11 := k26.heap hb11 id
    replace K := K.trans (k26.any _)
    replace KC := KC.trans (k26.any _)
    refine WL.nil ?_
    refine WX.nxt KC ?_
    refine WA.step 5 (hi := rfl) (k := ?_)
    refine WL.callG (d := 22) (f := 66) (args := #[.pointer (some ⟨b23, 0, none⟩), .string ⟨(p ++ (tagsS e n)).toArray⟩]) (cSum_c (l := p ++ (tagsS e n)) ht25 (by show List.length (p ++ (tagsS e n)) ≤ _; first | omega | (simp; done) | (simp; omega))) (k := fun e_ w31 h_ => ?_)
    obtain ⟨rfl, k32⟩ := h_
    refine ⟨_, rfl, ?_⟩
    replace hb4 := k32.heap hb4 n29
    replace hb11 := k32.heap hb11 n30
    replace K := K.trans' k32 (fun i hi e => absurd (e ▸ hi) (Nat.not_lt.2 z27))
    replace KC := KC.trans' k32 (fun i hi e => absurd (e ▸ hi) (Nat.not_lt.2 zc28))
    clear ht25
    have cl33 := crc_lt (p ++ (tagsS e n))
    refine WL.nil ?_
    refine WX.nxt KC ?_
    refine WA.step 6 (hi := rfl) (k := ?_)
    refine WL.op (d := 5) (.int .u32 ((crc (p ++ (tagsS e n)) : Nat) : Int)) (k := ?_)
    refine WL.nil ?_
    refine WX.nxtL ?_
    refine WA.done (k := ?_)
    clear KC
    refine WX.seqN ?_
    refine WC.seq ?_
    refine WC.region ?_
    refine WL.op (d := 23) (.pointer (some ⟨b1, 0, none⟩)) (k := ?_)
    refine WL.load (v := .string ⟨(p).toArray⟩) (ld1 (T := 9) (i := 0) hb4) (k := ?_)
    refine WL.op (d := 25) (.int .i64 (p.length : Int)) (k := ?_)
    refine WL.opE (d := 26) (.int .i64 (IntKind.i64.wrap (43 - (p.length : Int)))) (v := .int .i64 (43 - (p.length : Int))) (congrArg (Value.int .i64) (IntWalk.i64_in _ (by omega))) (k := ?_)
    refine WL.callG (d := 27) (f := 67) (args := #[.string ⟨#[0]⟩, .int .i64 (43 - (p.length : Int))]) (repeat0_c (x := 43 - (p.length : Int)) (by omega) (by omega) w31) (k := fun e_ w34 h_ => ⟨.string ⟨(List.replicate (43 - (p.length : Int)).toNat (0 : UInt8)).toArray⟩, h_.1, ?_⟩)
    have k35 := h_.2; clear h_
    replace hb4 := k35.heap hb4 id
    replace hb11 := k35.heap hb11 id
    replace K := K.trans (k35.any _)
    refine WL.op (d := 6) (.string ⟨(List.replicate (43 - (p.length : Int)).toNat (0 : UInt8)).toArray⟩) (k := ?_)
    refine WL.nil ?_
    refine WX.seqN ?_
    refine WC.seq ?_
    refine WC.mixed (fun _ => False) 17 (k := fun w36 k37 => ?_)
    replace hb4 := k37.heap hb4 id
    replace hb11 := k37.heap hb11 id
    replace K := K.trans (k37.any _)
    have KC := Keeps.refl (fun _ => False) w36
    have bh38 := hb4
    have bh39 := hb11
    have Kb := K
    refine WA.quiet 0 (d := 28) (.pointer (some ⟨b1, 0, none⟩)) KC (hi := rfl) (k := ?_)
    refine WA.quietR 1 (d := 29) (.string ⟨(p).toArray⟩) KC (exec_load (fun w_ k_ => ld1 (T := 9) (i := 0) (k_.heap bh38 id))) (hi := rfl) (k := ?_)
    refine WA.quiet 2 (d := 30) (.int .i64 (p.length : Int)) KC (hi := rfl) (k := ?_)
    have ub40 := u8_lt (UInt8.ofNat ((p.length) % 256))
    refine WA.quiet 3 (d := 31) (.int .u8 (IntKind.u8.wrap (p.length : Int))) KC (hi := rfl) (k := ?_)
    refine WA.rw (t := 31) (v := .int .u8 ((UInt8.ofNat ((p.length) % 256)).toNat : Int)) (congrArg (Value.int .u8) (byte_nat (p.length))) (k := ?_)
    refine WA.quiet 6 (d := 34) (.int .u32 ((crc (p ++ (tagsS e n)) : Nat) : Int)) KC (hi := rfl) (k := ?_)
    refine WA.quiet 9 (d := 37) (.pointer (some ⟨b1, 0, none⟩)) KC (hi := rfl) (k := ?_)
    refine WA.quietR 10 (d := 38) (.string ⟨(p).toArray⟩) KC (exec_load (fun w_ k_ => ld1 (T := 9) (i := 0) (k_.heap bh38 id))) (hi := rfl) (k := ?_)
    refine WA.quiet 12 (d := 40) (.string ⟨(List.replicate (43 - (p.length : Int)).toNat (0 : UInt8)).toArray⟩) KC (hi := rfl) (k := ?_)
    refine WA.quiet 14 (d := 42) (.string ⟨(tagsS e n).toArray⟩) KC (hi := rfl) (k := ?_)
    refine WA.step2 4 7 (hi := rfl) (hj := rfl) (k1 := ?_) (k2 := ?_)
    · refine WL.newF (d := 32) (T := 5) #[.int .u8 ((UInt8.ofNat ((p.length) % 256)).toNat : Int)] (fun b => .slice (some ⟨b, 0, none⟩) 1 1) (k := fun b41 w42 g43 hb44 k45 => ?_)
      have z46 := Nat.le_trans K.size g43
      have zc47 := Nat.le_trans KC.size g43
      have n48 : b1 ≠ b41 := Nat.ne_of_lt (Nat.lt_of_lt_of_le (lt_of_heap hb4) g43)
      have n49 : b8 ≠ b41 := Nat.ne_of_lt (Nat.lt_of_lt_of_le (lt_of_heap hb11) g43)
      replace hb4 := k45.heap hb4 id
      replace hb11 := k45.heap hb11 id
      replace K := K.trans (k45.any _)
      replace KC := KC.trans (k45.any _)
      refine WL.nil ?_
      refine WX.nxt KC ?_
      refine WA.step2 5 7 (hi := rfl) (hj := rfl) (k1 := ?_) (k2 := ?_)
      · refine WL.conv (d := 33) (vx := .slice (some ⟨b41, 0, none⟩) 1 1) (v := .string ⟨#[(UInt8.ofNat ((p.length) % 256))]⟩) (run_ofBytes (T := 87) (S := 9) (E := 5) (l := [(UInt8.ofNat ((p.length) % 256))]) (by kernel_rfl) (by kernel_rfl) (by kernel_rfl) hb44 rfl (by kernel_rfl)) (k := ?_)
        refine WL.nil ?_
        refine WX.nxt KC ?_
        refine WA.step 7 (hi := rfl) (k := ?_)
        refine WL.callG (d := 35) (f := 68) (args := #[.int .u32 ((crc (p ++ (tagsS e n)) : Nat) : Int)]) (cBytes_c (n := crc (p ++ (tagsS e n))) (by omega) w42) (k := fun e_ w50 h_ => ⟨.string ⟨(be 4 (crc (p ++ (tagsS e n)))).toArray⟩, h_.1, ?_⟩)
        have k51 := h_.2; clear h_
        replace hb4 := k51.heap hb4 id
        replace hb11 := k51.heap hb11 id
        replace hb44 := k51.heap hb44 id
        replace K := K.trans (k51.any _)
        replace KC := KC.trans (k51.any _)
        refine WL.nil ?_
        refine WX.nxt KC ?_
        refine WA.quietR 8 (d := 36) (.string ⟨([(UInt8.ofNat ((p.length) % 256))] ++ (be 4 (crc (p ++ (tagsS e n))))).toArray⟩) KC (exec_bin (fun _ => cat_run (by (try simp only [List.length_append, List.length_cons, List.length_nil, List.length_replicate, be_len]); omega))) (hi := rfl) (k := ?_)
        refine WA.quietR 11 (d := 39) (.string ⟨([(UInt8.ofNat ((p.length) % 256))] ++ (be 4 (crc (p ++ (tagsS e n)))) ++ p).toArray⟩) KC (exec_bin (fun _ => cat_run (by (try simp only [List.length_append, List.length_cons, List.length_nil, List.length_replicate, be_len]); omega))) (hi := rfl) (k := ?_)
        refine WA.quietR 13 (d := 41) (.string ⟨([(UInt8.ofNat ((p.length) % 256))] ++ (be 4 (crc (p ++ (tagsS e n)))) ++ p ++ (List.replicate (43 - (p.length : Int)).toNat (0 : UInt8))).toArray⟩) KC (exec_bin (fun _ => cat_run (by (try simp only [List.length_append, List.length_cons, List.length_nil, List.length_replicate, be_len]); omega))) (hi := rfl) (k := ?_)
        refine WA.quietR 15 (d := 43) (.string ⟨([(UInt8.ofNat ((p.length) % 256))] ++ (be 4 (crc (p ++ (tagsS e n)))) ++ p ++ (List.replicate (43 - (p.length : Int)).toNat (0 : UInt8)) ++ (tagsS e n)).toArray⟩) KC (exec_bin (fun _ => cat_run (by (try simp only [List.length_append, List.length_cons, List.length_nil, List.length_replicate, be_len]); omega))) (hi := rfl) (k := ?_)
        refine WA.quiet 16 (d := 2) (.string ⟨([(UInt8.ofNat ((p.length) % 256))] ++ (be 4 (crc (p ++ (tagsS e n)))) ++ p ++ (List.replicate (43 - (p.length : Int)).toNat (0 : UInt8)) ++ (tagsS e n)).toArray⟩) KC (hi := rfl) (k := ?_)
        refine WA.step 17 (hi := rfl) (k := ?_)
        refine WL.op (d := 3) (.int .i64 0) (k := ?_)
        refine WL.nil ?_
        refine WX.nxtL ?_
        refine WA.done (k := ?_)
        clear KC
        refine WX.seqN ?_
        refine WC.ret ?_
        refine WX.ret (rs := [.tmp 2, .tmp 3]) [.string ⟨([(UInt8.ofNat ((p.length) % 256))] ++ (be 4 (crc (p ++ (tagsS e n)))) ++ p ++ (List.replicate (43 - (p.length : Int)).toNat (0 : UInt8)) ++ (tagsS e n)).toArray⟩, .int .i64 0] (.tuple #[.string ⟨([(UInt8.ofNat ((p.length) % 256))] ++ (be 4 (crc (p ++ (tagsS e n)))) ++ p ++ (List.replicate (43 - (p.length : Int)).toNat (0 : UInt8)) ++ (tagsS e n)).toArray⟩, .int .i64 0]) ⟨(by kernel_rfl), (by kernel_rfl), trivial⟩ (k := ?_)
        exfalso; omega
      · refine WL.callG (d := 35) (f := 68) (args := #[.int .u32 ((crc (p ++ (tagsS e n)) : Nat) : Int)]) (cBytes_c (n := crc (p ++ (tagsS e n))) (by omega) w42) (k := fun e_ w52 h_ => ⟨.string ⟨(be 4 (crc (p ++ (tagsS e n)))).toArray⟩, h_.1, ?_⟩)
        have k53 := h_.2; clear h_
        replace hb4 := k53.heap hb4 id
        replace hb11 := k53.heap hb11 id
        replace hb44 := k53.heap hb44 id
        replace K := K.trans (k53.any _)
        replace KC := KC.trans (k53.any _)
        refine WL.nil ?_
        refine WX.nxt KC ?_
        refine WA.step 5 (hi := rfl) (k := ?_)
        refine WL.conv (d := 33) (vx := .slice (some ⟨b41, 0, none⟩) 1 1) (v := .string ⟨#[(UInt8.ofNat ((p.length) % 256))]⟩) (run_ofBytes (T := 87) (S := 9) (E := 5) (l := [(UInt8.ofNat ((p.length) % 256))]) (by kernel_rfl) (by kernel_rfl) (by kernel_rfl) hb44 rfl (by kernel_rfl)) (k := ?_)
        refine WL.nil ?_
        refine WX.nxt KC ?_
        refine WA.quietR 8 (d := 36) (.string ⟨([(UInt8.ofNat ((p.length) % 256))] ++ (be 4 (crc (p ++ (tagsS e n))))).toArray⟩) KC (exec_bin (fun _ => cat_run (by (try simp only [List.length_append, List.length_cons, List.length_nil, List.length_replicate, be_len]); omega))) (hi := rfl) (k := ?_)
        refine WA.quietR 11 (d := 39) (.string ⟨([(UInt8.ofNat ((p.length) % 256))] ++ (be 4 (crc (p ++ (tagsS e n)))) ++ p).toArray⟩) KC (exec_bin (fun _ => cat_run (by (try simp only [List.length_append, List.length_cons, List.length_nil, List.length_replicate, be_len]); omega))) (hi := rfl) (k := ?_)
        refine WA.quietR 13 (d := 41) (.string ⟨([(UInt8.ofNat ((p.length) % 256))] ++ (be 4 (crc (p ++ (tagsS e n)))) ++ p ++ (List.replicate (43 - (p.length : Int)).toNat (0 : UInt8))).toArray⟩) KC (exec_bin (fun _ => cat_run (by (try simp only [List.length_append, List.length_cons, List.length_nil, List.length_replicate, be_len]); omega))) (hi := rfl) (k := ?_)
        refine WA.quietR 15 (d := 43) (.string ⟨([(UInt8.ofNat ((p.length) % 256))] ++ (be 4 (crc (p ++ (tagsS e n)))) ++ p ++ (List.replicate (43 - (p.length : Int)).toNat (0 : UInt8)) ++ (tagsS e n)).toArray⟩) KC (exec_bin (fun _ => cat_run (by (try simp only [List.length_append, List.length_cons, List.length_nil, List.length_replicate, be_len]); omega))) (hi := rfl) (k := ?_)
        refine WA.quiet 16 (d := 2) (.string ⟨([(UInt8.ofNat ((p.length) % 256))] ++ (be 4 (crc (p ++ (tagsS e n)))) ++ p ++ (List.replicate (43 - (p.length : Int)).toNat (0 : UInt8)) ++ (tagsS e n)).toArray⟩) KC (hi := rfl) (k := ?_)
        refine WA.step 17 (hi := rfl) (k := ?_)
        refine WL.op (d := 3) (.int .i64 0) (k := ?_)
        refine WL.nil ?_
        refine WX.nxtL ?_
        refine WA.done (k := ?_)
        clear KC
        refine WX.seqN ?_
        refine WC.ret ?_
        refine WX.ret (rs := [.tmp 2, .tmp 3]) [.string ⟨([(UInt8.ofNat ((p.length) % 256))] ++ (be 4 (crc (p ++ (tagsS e n)))) ++ p ++ (List.replicate (43 - (p.length : Int)).toNat (0 : UInt8)) ++ (tagsS e n)).toArray⟩, .int .i64 0] (.tuple #[.string ⟨([(UInt8.ofNat ((p.length) % 256))] ++ (be 4 (crc (p ++ (tagsS e n)))) ++ p ++ (List.replicate (43 - (p.length : Int)).toNat (0 : UInt8)) ++ (tagsS e n)).toArray⟩, .int .i64 0]) ⟨(by kernel_rfl), (by kernel_rfl), trivial⟩ (k := ?_)
        exfalso; omega
    · refine WL.callG (d := 35) (f := 68) (args := #[.int .u32 ((crc (p ++ (tagsS e n)) : Nat) : Int)]) (cBytes_c (n := crc (p ++ (tagsS e n))) (by omega) w36) (k := fun e_ w54 h_ => ⟨.string ⟨(be 4 (crc (p ++ (tagsS e n)))).toArray⟩, h_.1, ?_⟩)
      have k55 := h_.2; clear h_
      replace hb4 := k55.heap hb4 id
      replace hb11 := k55.heap hb11 id
      replace K := K.trans (k55.any _)
      replace KC := KC.trans (k55.any _)
      refine WL.nil ?_
      refine WX.nxt KC ?_
      refine WA.step 4 (hi := rfl) (k := ?_)
      refine WL.newF (d := 32) (T := 5) #[.int .u8 ((UInt8.ofNat ((p.length) % 256)).toNat : Int)] (fun b => .slice (some ⟨b, 0, none⟩) 1 1) (k := fun b56 w57 g58 hb59 k60 => ?_)
      have z61 := Nat.le_trans K.size g58
      have zc62 := Nat.le_trans KC.size g58
      have n63 : b1 ≠ b56 := Nat.ne_of_lt (Nat.lt_of_lt_of_le (lt_of_heap hb4) g58)
      have n64 : b8 ≠ b56 := Nat.ne_of_lt (Nat.lt_of_lt_of_le (lt_of_heap hb11) g58)
      replace hb4 := k60.heap hb4 id
      replace hb11 := k60.heap hb11 id
      replace K := K.trans (k60.any _)
      replace KC := KC.trans (k60.any _)
      refine WL.nil ?_
      refine WX.nxt KC ?_
      refine WA.step 5 (hi := rfl) (k := ?_)
      refine WL.conv (d := 33) (vx := .slice (some ⟨b56, 0, none⟩) 1 1) (v := .string ⟨#[(UInt8.ofNat ((p.length) % 256))]⟩) (run_ofBytes (T := 87) (S := 9) (E := 5) (l := [(UInt8.ofNat ((p.length) % 256))]) (by kernel_rfl) (by kernel_rfl) (by kernel_rfl) hb59 rfl (by kernel_rfl)) (k := ?_)
      refine WL.nil ?_
      refine WX.nxt KC ?_
      refine WA.quietR 8 (d := 36) (.string ⟨([(UInt8.ofNat ((p.length) % 256))] ++ (be 4 (crc (p ++ (tagsS e n))))).toArray⟩) KC (exec_bin (fun _ => cat_run (by (try simp only [List.length_append, List.length_cons, List.length_nil, List.length_replicate, be_len]); omega))) (hi := rfl) (k := ?_)
      refine WA.quietR 11 (d := 39) (.string ⟨([(UInt8.ofNat ((p.length) % 256))] ++ (be 4 (crc (p ++ (tagsS e n)))) ++ p).toArray⟩) KC (exec_bin (fun _ => cat_run (by (try simp only [List.length_append, List.length_cons, List.length_nil, List.length_replicate, be_len]); omega))) (hi := rfl) (k := ?_)
      refine WA.quietR 13 (d := 41) (.string ⟨([(UInt8.ofNat ((p.length) % 256))] ++ (be 4 (crc (p ++ (tagsS e n)))) ++ p ++ (List.replicate (43 - (p.length : Int)).toNat (0 : UInt8))).toArray⟩) KC (exec_bin (fun _ => cat_run (by (try simp only [List.length_append, List.length_cons, List.length_nil, List.length_replicate, be_len]); omega))) (hi := rfl) (k := ?_)
      refine WA.quietR 15 (d := 43) (.string ⟨([(UInt8.ofNat ((p.length) % 256))] ++ (be 4 (crc (p ++ (tagsS e n)))) ++ p ++ (List.replicate (43 - (p.length : Int)).toNat (0 : UInt8)) ++ (tagsS e n)).toArray⟩) KC (exec_bin (fun _ => cat_run (by (try simp only [List.length_append, List.length_cons, List.length_nil, List.length_replicate, be_len]); omega))) (hi := rfl) (k := ?_)
      refine WA.quiet 16 (d := 2) (.string ⟨([(UInt8.ofNat ((p.length) % 256))] ++ (be 4 (crc (p ++ (tagsS e n)))) ++ p ++ (List.replicate (43 - (p.length : Int)).toNat (0 : UInt8)) ++ (tagsS e n)).toArray⟩) KC (hi := rfl) (k := ?_)
      refine WA.step 17 (hi := rfl) (k := ?_)
      refine WL.op (d := 3) (.int .i64 0) (k := ?_)
      refine WL.nil ?_
      refine WX.nxtL ?_
      refine WA.done (k := ?_)
      clear KC
      refine WX.seqN ?_
      refine WC.ret ?_
      refine WX.ret (rs := [.tmp 2, .tmp 3]) [.string ⟨([(UInt8.ofNat ((p.length) % 256))] ++ (be 4 (crc (p ++ (tagsS e n)))) ++ p ++ (List.replicate (43 - (p.length : Int)).toNat (0 : UInt8)) ++ (tagsS e n)).toArray⟩, .int .i64 0] (.tuple #[.string ⟨([(UInt8.ofNat ((p.length) % 256))] ++ (be 4 (crc (p ++ (tagsS e n)))) ++ p ++ (List.replicate (43 - (p.length : Int)).toNat (0 : UInt8)) ++ (tagsS e n)).toArray⟩, .int .i64 0]) ⟨(by kernel_rfl), (by kernel_rfl), trivial⟩ (k := ?_)
      exfalso; omega

theorem pad_one (l : List UInt8) (j : Nat) : l ++ List.replicate j 0 ++ [0] = l ++ List.replicate (j + 1) 0 := by rw [List.append_assoc, List.replicate_succ']

set_option maxRecDepth 100000 in
set_option maxHeartbeats 4000000 in
theorem u04Make_ok {p : List UInt8} {e n : Nat} (hp : p.length ≤ 43) (hpm : p.length ≤ 1000000) (he : e < 18446744073709551616) (hn : n < 18446744073709551616) (w : World) : Calls Tryz.prog 43 #[.agg #[.string ⟨p.toArray⟩, .int .u64 (e : Int), .int .u64 (n : Int)]] w fun e_ w' => e_ = .returned (.tuple #[.string ⟨(makeS p e n).toArray⟩, .int .i64 0]) ∧ Adds w w' := by
  have K : Keeps (fun _ => False) w w := Keeps.refl _ w
  refine Calls.start Tryz.func43 rfl (by kernel_rfl) ?_
  refine WC.seq ?_
  refine WC.region ?_
  refine WL.new (d := 1) (T := 96) #[.string ⟨(p).toArray⟩, .int .u64 ((e : Nat) : Int), .int .u64 ((n : Nat) : Int)] (k := fun b1 w2 g3 hb4 k5 => ?_)
  have z6 := Nat.le_trans K.size g3
  replace K := K.trans (k5.any _)
  refine WL.op (d := 2) (.string ⟨#[]⟩) (k := ?_)
  refine WL.op (d := 3) (.int .i64 0) (k := ?_)
  refine WL.nil ?_
  refine WX.seqN ?_
  refine WC.seq ?_
  refine WC.seq ?_
  refine WC.region ?_
  refine WL.op (d := 6) (.pointer (some ⟨b1, 0, none⟩)) (k := ?_)
  refine WL.load (v := .string ⟨(p).toArray⟩) (ld1 (T := 9) (i := 0) hb4) (k := ?_)
  refine WL.op (d := 8) (.int .i64 (p.length : Int)) (k := ?_)
  refine WL.op (d := 9) (.bool (decide ((p.length : Int) > 43))) (k := ?_)
  refine WL.nil ?_
  refine WX.seqN ?_
  refine WC.cond (b := decide ((p.length : Int) > 43)) (ht := fun h7 => ?_) (hf := fun h7 => ?_)
  · have ph7 := of_decide_eq_true h7
    refine WC.seq ?_
    refine WC.region ?_
    refine WL.op (d := 2) (.string ⟨#[]⟩) (k := ?_)
    refine WL.op (d := 3) (.int .i64 1) (k := ?_)
    refine WL.nil ?_
    refine WX.seqN ?_
    refine WC.ret ?_
    refine WX.seqR ?_
    refine WX.ret (rs := [.tmp 2, .tmp 3]) [.string ⟨#[]⟩, .int .i64 1] (.tuple #[.string ⟨#[]⟩, .int .i64 1]) ⟨(by kernel_rfl), (by kernel_rfl), trivial⟩ (k := ?_)
    exfalso; omega
  · have ph7 := of_decide_eq_false h7
    refine WC.skip ?_
    refine WX.seqN ?_
    refine WC.seq ?_
    refine WC.quiet (k := ?_)
    refine WQ.op (d := 10) (.pointer (some ⟨b1, 1, none⟩)) (k := ?_)
    refine WQ.load (v := .int .u64 ((e : Nat) : Int)) (fun w_ k_ => ld1 (T := 29) (i := 1) (k_.heap hb4 id)) (k := ?_)
    refine WQ.callG (d := 12) (f := 58) (args := #[.int .u64 ((e : Nat) : Int)]) (v := .string ⟨(be 8 e).toArray⟩) (fun w_ k_ => u04eight_c (n := e) (by omega) w_) addsR (k := ?_)
    have bl8 := be_len 8 e
    refine WQ.op (d := 13) (.pointer (some ⟨b1, 2, none⟩)) (k := ?_)
    refine WQ.load (v := .int .u64 ((n : Nat) : Int)) (fun w_ k_ => ld1 (T := 29) (i := 2) (k_.heap hb4 id)) (k := ?_)
    refine WQ.callG (d := 15) (f := 58) (args := #[.int .u64 ((n : Nat) : Int)]) (v := .string ⟨(be 8 n).toArray⟩) (fun w_ k_ => u04eight_c (n := n) (by omega) w_) addsR (k := ?_)
    have bl9 := be_len 8 n
    refine WQ.bin (d := 16) (v := .string ⟨((be 8 e) ++ (be 8 n)).toArray⟩) (fun _ => cat_run (by (try simp only [List.length_append, List.length_cons, List.length_nil, List.length_replicate, be_len]); omega)) (k := ?_)
    refine WQ.op (d := 4) (.string ⟨((be 8 e) ++ (be 8 n)).toArray⟩) (k := ?_)
    refine WQ.nilX (fun w10 k11 => ?_)
    replace hb4 := k11.heap hb4 id
    replace K := K.trans (k11.any _)
    refine WX.seqN ?_
    refine WC.seq ?_
    refine WC.mixed (fun _ => False) 16 (k := fun w12 k13 => ?_)
    replace hb4 := k13.heap hb4 id
    replace K := K.trans (k13.any _)
    have KC := Keeps.refl (fun _ => False) w12
    have bh14 := hb4
    have Kb := K
    refine WA.quiet 0 (d := 17) (.pointer (some ⟨b1, 0, none⟩)) KC (hi := rfl) (k := ?_)
    refine WA.quietR 1 (d := 18) (.string ⟨(p).toArray⟩) KC (exec_load (fun w_ k_ => ld1 (T := 9) (i := 0) (k_.heap bh14 id))) (hi := rfl) (k := ?_)
    refine WA.quiet 2 (d := 19) (.int .i64 (p.length : Int)) KC (hi := rfl) (k := ?_)
    have ub15 := u8_lt (UInt8.ofNat ((p.length) % 256))
    refine WA.quiet 3 (d := 20) (.int .u8 (IntKind.u8.wrap (p.length : Int))) KC (hi := rfl) (k := ?_)
    refine WA.rw (t := 20) (v := .int .u8 ((UInt8.ofNat ((p.length) % 256)).toNat : Int)) (congrArg (Value.int .u8) (byte_nat (p.length))) (k := ?_)
    refine WA.quiet 6 (d := 23) (.pointer (some ⟨b1, 0, none⟩)) KC (hi := rfl) (k := ?_)
    refine WA.quietR 7 (d := 24) (.string ⟨(p).toArray⟩) KC (exec_load (fun w_ k_ => ld1 (T := 9) (i := 0) (k_.heap bh14 id))) (hi := rfl) (k := ?_)
    refine WA.quiet 8 (d := 25) (.string ⟨((be 8 e) ++ (be 8 n)).toArray⟩) KC (hi := rfl) (k := ?_)
    refine WA.quietR 9 (d := 26) (.string ⟨(p ++ ((be 8 e) ++ (be 8 n))).toArray⟩) KC (exec_bin (fun _ => cat_run (by (try simp only [List.length_append, List.length_cons, List.length_nil, List.length_replicate, be_len]); omega))) (hi := rfl) (k := ?_)
    refine WA.quiet 13 (d := 30) (.pointer (some ⟨b1, 0, none⟩)) KC (hi := rfl) (k := ?_)
    refine WA.quietR 14 (d := 31) (.string ⟨(p).toArray⟩) KC (exec_load (fun w_ k_ => ld1 (T := 9) (i := 0) (k_.heap bh14 id))) (hi := rfl) (k := ?_)
    refine WA.step2 4 10 (hi := rfl) (hj := rfl) (k1 := ?_) (k2 := ?_)
    · refine WL.newF (d := 21) (T := 5) #[.int .u8 ((UInt8.ofNat ((p.length) % 256)).toNat : Int)] (fun b => .slice (some ⟨b, 0, none⟩) 1 1) (k := fun b16 w17 g18 hb19 k20 => ?_)
      have z21 := Nat.le_trans K.size g18
      have zc22 := Nat.le_trans KC.size g18
      have n23 : b1 ≠ b16 := Nat.ne_of_lt (Nat.lt_of_lt_of_le (lt_of_heap hb4) g18)
      replace hb4 := k20.heap hb4 id
      replace K := K.trans (k20.any _)
      replace KC := KC.trans (k20.any _)
      refine WL.nil ?_
      refine WX.nxt KC ?_
      refine WA.step2 5 10 (hi := rfl) (hj := rfl) (k1 := ?_) (k2 := ?_)
      · refine WL.conv (d := 22) (vx := .slice (some ⟨b16, 0, none⟩) 1 1) (v := .string ⟨#[(UInt8.ofNat ((p.length) % 256))]⟩) (run_ofBytes (T := 87) (S := 9) (E := 5) (l := [(UInt8.ofNat ((p.length) % 256))]) (by kernel_rfl) (by kernel_rfl) (by kernel_rfl) hb19 rfl (by kernel_rfl)) (k := ?_)
        refine WL.nil ?_
        refine WX.nxt KC ?_
        refine WA.step 10 (hi := rfl) (k := ?_)
        refine WL.callG (d := 27) (f := 60) (args := #[.string ⟨(p ++ ((be 8 e) ++ (be 8 n))).toArray⟩]) (u02Sum_c (l := p ++ ((be 8 e) ++ (be 8 n))) (by show List.length (p ++ ((be 8 e) ++ (be 8 n))) ≤ _; first | omega | (simp; done) | (simp; omega)) w17) (k := fun e_ w25 h_ => ⟨.int .u32 ((crc (p ++ ((be 8 e) ++ (be 8 n))) : Nat) : Int), h_.1, ?_⟩)
        have k26 := h_.2; clear h_
        replace hb4 := k26.heap hb4 id
        replace hb19 := k26.heap hb19 id
        replace K := K.trans (k26.any _)
        replace KC := KC.trans (k26.any _)
        have cl24 := crc_lt (p ++ ((be 8 e) ++ (be 8 n)))
        refine WL.nil ?_
        refine WX.nxt KC ?_
        refine WA.step 11 (hi := rfl) (k := ?_)
        refine WL.callG (d := 28) (f := 59) (args := #[.int .u32 ((crc (p ++ ((be 8 e) ++ (be 8 n))) : Nat) : Int)]) (u02Bytes_c (n := crc (p ++ ((be 8 e) ++ (be 8 n)))) (by omega) w25) (k := fun e_ w27 h_ => ⟨.string ⟨(be 4 (crc (p ++ ((be 8 e) ++ (be 8 n))))).toArray⟩, h_.1, ?_⟩)
        have k28 := h_.2; clear h_
        replace hb4 := k28.heap hb4 id
        replace hb19 := k28.heap hb19 id
        replace K := K.trans (k28.any _)
        replace KC := KC.trans (k28.any _)
        refine WL.nil ?_
        refine WX.nxt KC ?_
        refine WA.quietR 12 (d := 29) (.string ⟨([(UInt8.ofNat ((p.length) % 256))] ++ (be 4 (crc (p ++ ((be 8 e) ++ (be 8 n)))))).toArray⟩) KC (exec_bin (fun _ => cat_run (by (try simp only [List.length_append, List.length_cons, List.length_nil, List.length_replicate, be_len]); omega))) (hi := rfl) (k := ?_)
        refine WA.quietR 15 (d := 32) (.string ⟨([(UInt8.ofNat ((p.length) % 256))] ++ (be 4 (crc (p ++ ((be 8 e) ++ (be 8 n))))) ++ p).toArray⟩) KC (exec_bin (fun _ => cat_run (by (try simp only [List.length_append, List.length_cons, List.length_nil, List.length_replicate, be_len]); omega))) (hi := rfl) (k := ?_)
        refine WA.step 16 (hi := rfl) (k := ?_)
        refine WL.op (d := 5) (.string ⟨([(UInt8.ofNat ((p.length) % 256))] ++ (be 4 (crc (p ++ ((be 8 e) ++ (be 8 n))))) ++ p).toArray⟩) (k := ?_)
        refine WL.nil ?_
        refine WX.nxtL ?_
        refine WA.done (k := ?_)
        clear KC
        refine WX.seqN ?_
        refine WC.seq ?_
        refine WC.block ?_
        refine WC.rw (t := 5) (v := .string ⟨(mk0 p e n ++ List.replicate 0 (0 : UInt8)).toArray⟩) (congrArg (fun l : List UInt8 => Value.string ⟨l.toArray⟩) (show [(UInt8.ofNat ((p.length) % 256))] ++ (be 4 (crc (p ++ ((be 8 e) ++ (be 8 n))))) ++ p = mk0 p e n ++ List.replicate 0 (0 : UInt8) by simp [mk0, tagsS, Nat.mod_eq_of_lt (show p.length < 256 by omega)])) (k := ?_)
        refine WC.rw (t := 4) (v := .string ⟨(tagsS e n).toArray⟩) (congrArg (fun l : List UInt8 => Value.string ⟨l.toArray⟩) rfl) (k := ?_)
        refine WC.loop (ι := Nat) (fun (j : Nat) => [(0, .agg #[.string ⟨(p).toArray⟩, .int .u64 ((e : Nat) : Int), .int .u64 ((n : Nat) : Int)]), (1, .pointer (some ⟨b1, 0, none⟩)), (2, .string ⟨#[]⟩), (3, .int .i64 0), (6, .pointer (some ⟨b1, 0, none⟩)), (7, .string ⟨(p).toArray⟩), (8, .int .i64 (p.length : Int)), (9, .bool (decide ((p.length : Int) > 43))), (10, .pointer (some ⟨b1, 1, none⟩)), (11, .int .u64 ((e : Nat) : Int)), (12, .string ⟨(be 8 e).toArray⟩), (13, .pointer (some ⟨b1, 2, none⟩)), (14, .int .u64 ((n : Nat) : Int)), (15, .string ⟨(be 8 n).toArray⟩), (16, .string ⟨((be 8 e) ++ (be 8 n)).toArray⟩), (4, .string ⟨(tagsS e n).toArray⟩), (17, .pointer (some ⟨b1, 0, none⟩)), (18, .string ⟨(p).toArray⟩), (19, .int .i64 (p.length : Int)), (20, .int .u8 ((UInt8.ofNat ((p.length) % 256)).toNat : Int)), (23, .pointer (some ⟨b1, 0, none⟩)), (24, .string ⟨(p).toArray⟩), (25, .string ⟨((be 8 e) ++ (be 8 n)).toArray⟩), (26, .string ⟨(p ++ ((be 8 e) ++ (be 8 n))).toArray⟩), (30, .pointer (some ⟨b1, 0, none⟩)), (31, .string ⟨(p).toArray⟩), (21, .slice (some ⟨b16, 0, none⟩) 1 1), (22, .string ⟨#[(UInt8.ofNat ((p.length) % 256))]⟩), (27, .int .u32 ((crc (p ++ ((be 8 e) ++ (be 8 n))) : Nat) : Int)), (28, .string ⟨(be 4 (crc (p ++ ((be 8 e) ++ (be 8 n))))).toArray⟩), (29, .string ⟨([(UInt8.ofNat ((p.length) % 256))] ++ (be 4 (crc (p ++ ((be 8 e) ++ (be 8 n)))))).toArray⟩), (32, .string ⟨([(UInt8.ofNat ((p.length) % 256))] ++ (be 4 (crc (p ++ ((be 8 e) ++ (be 8 n))))) ++ p).toArray⟩), (5, .string ⟨(mk0 p e n ++ List.replicate j (0 : UInt8)).toArray⟩)]) (fun (j : Nat) (w_ : World) => (Keeps (fun _ => False) w w_) ∧ (w_.heap[b1]? = some (.cells #[.string ⟨(p).toArray⟩, .int .u64 ((e : Nat) : Int), .int .u64 ((n : Nat) : Int)] 96 (0, 0))) ∧ (w_.heap[b16]? = some (.cells #[.int .u8 ((UInt8.ofNat ((p.length) % 256)).toNat : Int)] 5 (0, 0))) ∧ (j ≤ 43 - p.length)) (fun (j : Nat) => (43 - j)) 0 ⟨(by kernel_rfl), (by kernel_rfl), (by kernel_rfl), (by kernel_rfl), (by kernel_rfl), (by kernel_rfl), (by kernel_rfl), (by kernel_rfl), (by kernel_rfl), (by kernel_rfl), (by kernel_rfl), (by kernel_rfl), (by kernel_rfl), (by kernel_rfl), (by kernel_rfl), (by kernel_rfl), (by kernel_rfl), (by kernel_rfl), (by kernel_rfl), (by kernel_rfl), (by kernel_rfl), (by kernel_rfl), (by kernel_rfl), (by kernel_rfl), (by kernel_rfl), (by kernel_rfl), (by kernel_rfl), (by kernel_rfl), (by kernel_rfl), (by kernel_rfl), (by kernel_rfl), (by kernel_rfl), (by kernel_rfl), trivial⟩ ⟨K, hb4, hb19, (by omega)⟩ ?_
        rintro j w29 ⟨K, hb30, hb31, j1⟩
        have lm_ := mk0_len p e n
        have lj_ : (mk0 p e n ++ List.replicate j (0 : UInt8)).length = 5 + p.length + j := by simp [lm_]
        have lt_ := tagsS_len e n
        refine WC.seq ?_
        refine WC.seq ?_
        refine WC.region ?_
        refine WL.op (d := 33) (.string ⟨(mk0 p e n ++ List.replicate j (0 : UInt8)).toArray⟩) (k := ?_)
        refine WL.op (d := 34) (.int .i64 ((mk0 p e n ++ List.replicate j (0 : UInt8)).length : Int)) (k := ?_)
        refine WL.op (d := 35) (.bool (decide (((mk0 p e n ++ List.replicate j (0 : UInt8)).length : Int) < 48))) (k := ?_)
        refine WL.nil ?_
        refine WX.seqN ?_
        refine WC.cond (b := decide (((mk0 p e n ++ List.replicate j (0 : UInt8)).length : Int) < 48)) (ht := fun h32 => ?_) (hf := fun h32 => ?_)
        · have ph32 := of_decide_eq_true h32
          refine WC.skip ?_
          refine WX.seqN ?_
          refine WC.block ?_
          refine WC.region ?_
          refine WL.op (d := 36) (.string ⟨(mk0 p e n ++ List.replicate j (0 : UInt8)).toArray⟩) (k := ?_)
          refine WL.bin (d := 37) (v := .string ⟨(mk0 p e n ++ List.replicate j (0 : UInt8) ++ [0]).toArray⟩) (cat_run (by (try simp only [List.length_append, List.length_cons, List.length_nil, List.length_replicate, be_len]); omega)) (k := ?_)
          refine WL.op (d := 5) (.string ⟨(mk0 p e n ++ List.replicate j (0 : UInt8) ++ [0]).toArray⟩) (k := ?_)
          refine WL.nil ?_
          refine WX.blockN ?_
          refine WX.rw (t := 5) (v := .string ⟨(mk0 p e n ++ List.replicate (j + 1) (0 : UInt8)).toArray⟩) (congrArg (fun l : List UInt8 => Value.string ⟨l.toArray⟩) (pad_one _ j)) (k := ?_)
          refine WX.round (j + 1) (by show (43 - (j + 1)) < (43 - j); omega) ⟨(by kernel_rfl), (by kernel_rfl), (by kernel_rfl), (by kernel_rfl), (by kernel_rfl), (by kernel_rfl), (by kernel_rfl), (by kernel_rfl), (by kernel_rfl), (by kernel_rfl), (by kernel_rfl), (by kernel_rfl), (by kernel_rfl), (by kernel_rfl), (by kernel_rfl), (by kernel_rfl), (by kernel_rfl), (by kernel_rfl), (by kernel_rfl), (by kernel_rfl), (by kernel_rfl), (by kernel_rfl), (by kernel_rfl), (by kernel_rfl), (by kernel_rfl), (by kernel_rfl), (by kernel_rfl), (by kernel_rfl), (by kernel_rfl), (by kernel_rfl), (by kernel_rfl), (by kernel_rfl), (by kernel_rfl), trivial⟩ ⟨K, hb30, hb31, (by omega)⟩
        · have ph32 := of_decide_eq_false h32
          refine WC.exit ?_
          refine WX.seqE ?_
          refine WX.seqE ?_
          refine WX.blockE ?_
          refine WX.seqN ?_
          refine WC.seq ?_
          refine WC.region ?_
          refine WL.op (d := 38) (.string ⟨(mk0 p e n ++ List.replicate j (0 : UInt8)).toArray⟩) (k := ?_)
          refine WL.op (d := 39) (.string ⟨(tagsS e n).toArray⟩) (k := ?_)
          refine WL.bin (d := 40) (v := .string ⟨(mk0 p e n ++ List.replicate j (0 : UInt8) ++ (tagsS e n)).toArray⟩) (cat_run (by (try simp only [List.length_append, List.length_cons, List.length_nil, List.length_replicate, be_len]); omega)) (k := ?_)
          refine WL.op (d := 2) (.string ⟨(mk0 p e n ++ List.replicate j (0 : UInt8) ++ (tagsS e n)).toArray⟩) (k := ?_)
          refine WL.op (d := 3) (.int .i64 0) (k := ?_)
          refine WL.nil ?_
          refine WX.seqN ?_
          refine WC.ret ?_
          refine WX.ret (rs := [.tmp 2, .tmp 3]) [.string ⟨(mk0 p e n ++ List.replicate j (0 : UInt8) ++ (tagsS e n)).toArray⟩, .int .i64 0] (.tuple #[.string ⟨(mk0 p e n ++ List.replicate j (0 : UInt8) ++ (tagsS e n)).toArray⟩, .int .i64 0]) ⟨(by kernel_rfl), (by kernel_rfl), trivial⟩ (k := ?_)
          exact ⟨by rw [mk0_end (j := j) (by omega)], K⟩
      · refine WL.callG (d := 27) (f := 60) (args := #[.string ⟨(p ++ ((be 8 e) ++ (be 8 n))).toArray⟩]) (u02Sum_c (l := p ++ ((be 8 e) ++ (be 8 n))) (by show List.length (p ++ ((be 8 e) ++ (be 8 n))) ≤ _; first | omega | (simp; done) | (simp; omega)) w17) (k := fun e_ w34 h_ => ⟨.int .u32 ((crc (p ++ ((be 8 e) ++ (be 8 n))) : Nat) : Int), h_.1, ?_⟩)
        have k35 := h_.2; clear h_
        replace hb4 := k35.heap hb4 id
        replace hb19 := k35.heap hb19 id
        replace K := K.trans (k35.any _)
        replace KC := KC.trans (k35.any _)
        have cl33 := crc_lt (p ++ ((be 8 e) ++ (be 8 n)))
        refine WL.nil ?_
        refine WX.nxt KC ?_
        refine WA.step2 5 11 (hi := rfl) (hj := rfl) (k1 := ?_) (k2 := ?_)
        · refine WL.conv (d := 22) (vx := .slice (some ⟨b16, 0, none⟩) 1 1) (v := .string ⟨#[(UInt8.ofNat ((p.length) % 256))]⟩) (run_ofBytes (T := 87) (S := 9) (E := 5) (l := [(UInt8.ofNat ((p.length) % 256))]) (by kernel_rfl) (by kernel_rfl) (by kernel_rfl) hb19 rfl (by kernel_rfl)) (k := ?_)
          refine WL.nil ?_
          refine WX.nxt KC ?_
          refine WA.step 11 (hi := rfl) (k := ?_)
          refine WL.callG (d := 28) (f := 59) (args := #[.int .u32 ((crc (p ++ ((be 8 e) ++ (be 8 n))) : Nat) : Int)]) (u02Bytes_c (n := crc (p ++ ((be 8 e) ++ (be 8 n)))) (by omega) w34) (k := fun e_ w36 h_ => ⟨.string ⟨(be 4 (crc (p ++ ((be 8 e) ++ (be 8 n))))).toArray⟩, h_.1, ?_⟩)
          have k37 := h_.2; clear h_
          replace hb4 := k37.heap hb4 id
          replace hb19 := k37.heap hb19 id
          replace K := K.trans (k37.any _)
          replace KC := KC.trans (k37.any _)
          refine WL.nil ?_
          refine WX.nxt KC ?_
          refine WA.quietR 12 (d := 29) (.string ⟨([(UInt8.ofNat ((p.length) % 256))] ++ (be 4 (crc (p ++ ((be 8 e) ++ (be 8 n)))))).toArray⟩) KC (exec_bin (fun _ => cat_run (by (try simp only [List.length_append, List.length_cons, List.length_nil, List.length_replicate, be_len]); omega))) (hi := rfl) (k := ?_)
          refine WA.quietR 15 (d := 32) (.string ⟨([(UInt8.ofNat ((p.length) % 256))] ++ (be 4 (crc (p ++ ((be 8 e) ++ (be 8 n))))) ++ p).toArray⟩) KC (exec_bin (fun _ => cat_run (by (try simp only [List.length_append, List.length_cons, List.length_nil, List.length_replicate, be_len]); omega))) (hi := rfl) (k := ?_)
          refine WA.step 16 (hi := rfl) (k := ?_)
          refine WL.op (d := 5) (.string ⟨([(UInt8.ofNat ((p.length) % 256))] ++ (be 4 (crc (p ++ ((be 8 e) ++ (be 8 n))))) ++ p).toArray⟩) (k := ?_)
          refine WL.nil ?_
          refine WX.nxtL ?_
          refine WA.done (k := ?_)
          clear KC
          refine WX.seqN ?_
          refine WC.seq ?_
          refine WC.block ?_
          refine WC.rw (t := 5) (v := .string ⟨(mk0 p e n ++ List.replicate 0 (0 : UInt8)).toArray⟩) (congrArg (fun l : List UInt8 => Value.string ⟨l.toArray⟩) (show [(UInt8.ofNat ((p.length) % 256))] ++ (be 4 (crc (p ++ ((be 8 e) ++ (be 8 n))))) ++ p = mk0 p e n ++ List.replicate 0 (0 : UInt8) by simp [mk0, tagsS, Nat.mod_eq_of_lt (show p.length < 256 by omega)])) (k := ?_)
          refine WC.rw (t := 4) (v := .string ⟨(tagsS e n).toArray⟩) (congrArg (fun l : List UInt8 => Value.string ⟨l.toArray⟩) rfl) (k := ?_)
          refine WC.loop (ι := Nat) (fun (j : Nat) => [(0, .agg #[.string ⟨(p).toArray⟩, .int .u64 ((e : Nat) : Int), .int .u64 ((n : Nat) : Int)]), (1, .pointer (some ⟨b1, 0, none⟩)), (2, .string ⟨#[]⟩), (3, .int .i64 0), (6, .pointer (some ⟨b1, 0, none⟩)), (7, .string ⟨(p).toArray⟩), (8, .int .i64 (p.length : Int)), (9, .bool (decide ((p.length : Int) > 43))), (10, .pointer (some ⟨b1, 1, none⟩)), (11, .int .u64 ((e : Nat) : Int)), (12, .string ⟨(be 8 e).toArray⟩), (13, .pointer (some ⟨b1, 2, none⟩)), (14, .int .u64 ((n : Nat) : Int)), (15, .string ⟨(be 8 n).toArray⟩), (16, .string ⟨((be 8 e) ++ (be 8 n)).toArray⟩), (4, .string ⟨(tagsS e n).toArray⟩), (17, .pointer (some ⟨b1, 0, none⟩)), (18, .string ⟨(p).toArray⟩), (19, .int .i64 (p.length : Int)), (20, .int .u8 ((UInt8.ofNat ((p.length) % 256)).toNat : Int)), (23, .pointer (some ⟨b1, 0, none⟩)), (24, .string ⟨(p).toArray⟩), (25, .string ⟨((be 8 e) ++ (be 8 n)).toArray⟩), (26, .string ⟨(p ++ ((be 8 e) ++ (be 8 n))).toArray⟩), (30, .pointer (some ⟨b1, 0, none⟩)), (31, .string ⟨(p).toArray⟩), (21, .slice (some ⟨b16, 0, none⟩) 1 1), (27, .int .u32 ((crc (p ++ ((be 8 e) ++ (be 8 n))) : Nat) : Int)), (22, .string ⟨#[(UInt8.ofNat ((p.length) % 256))]⟩), (28, .string ⟨(be 4 (crc (p ++ ((be 8 e) ++ (be 8 n))))).toArray⟩), (29, .string ⟨([(UInt8.ofNat ((p.length) % 256))] ++ (be 4 (crc (p ++ ((be 8 e) ++ (be 8 n)))))).toArray⟩), (32, .string ⟨([(UInt8.ofNat ((p.length) % 256))] ++ (be 4 (crc (p ++ ((be 8 e) ++ (be 8 n))))) ++ p).toArray⟩), (5, .string ⟨(mk0 p e n ++ List.replicate j (0 : UInt8)).toArray⟩)]) (fun (j : Nat) (w_ : World) => (Keeps (fun _ => False) w w_) ∧ (w_.heap[b1]? = some (.cells #[.string ⟨(p).toArray⟩, .int .u64 ((e : Nat) : Int), .int .u64 ((n : Nat) : Int)] 96 (0, 0))) ∧ (w_.heap[b16]? = some (.cells #[.int .u8 ((UInt8.ofNat ((p.length) % 256)).toNat : Int)] 5 (0, 0))) ∧ (j ≤ 43 - p.length)) (fun (j : Nat) => (43 - j)) 0 ⟨(by kernel_rfl), (by kernel_rfl), (by kernel_rfl), (by kernel_rfl), (by kernel_rfl), (by kernel_rfl), (by kernel_rfl), (by kernel_rfl), (by kernel_rfl), (by kernel_rfl), (by kernel_rfl), (by kernel_rfl), (by kernel_rfl), (by kernel_rfl), (by kernel_rfl), (by kernel_rfl), (by kernel_rfl), (by kernel_rfl), (by kernel_rfl), (by kernel_rfl), (by kernel_rfl), (by kernel_rfl), (by kernel_rfl), (by kernel_rfl), (by kernel_rfl), (by kernel_rfl), (by kernel_rfl), (by kernel_rfl), (by kernel_rfl), (by kernel_rfl), (by kernel_rfl), (by kernel_rfl), (by kernel_rfl), trivial⟩ ⟨K, hb4, hb19, (by omega)⟩ ?_
          rintro j w38 ⟨K, hb39, hb40, j1⟩
          have lm_ := mk0_len p e n
          have lj_ : (mk0 p e n ++ List.replicate j (0 : UInt8)).length = 5 + p.length + j := by simp [lm_]
          have lt_ := tagsS_len e n
          refine WC.seq ?_
          refine WC.seq ?_
          refine WC.region ?_
          refine WL.op (d := 33) (.string ⟨(mk0 p e n ++ List.replicate j (0 : UInt8)).toArray⟩) (k := ?_)
          refine WL.op (d := 34) (.int .i64 ((mk0 p e n ++ List.replicate j (0 : UInt8)).length : Int)) (k := ?_)
          refine WL.op (d := 35) (.bool (decide (((mk0 p e n ++ List.replicate j (0 : UInt8)).length : Int) < 48))) (k := ?_)
          refine WL.nil ?_
          refine WX.seqN ?_
          refine WC.cond (b := decide (((mk0 p e n ++ List.replicate j (0 : UInt8)).length : Int) < 48)) (ht := fun h41 => ?_) (hf := fun h41 => ?_)
          · have ph41 := of_decide_eq_true h41
            refine WC.skip ?_
            refine WX.seqN ?_
            refine WC.block ?_
            refine WC.region ?_
            refine WL.op (d := 36) (.string ⟨(mk0 p e n ++ List.replicate j (0 : UInt8)).toArray⟩) (k := ?_)
            refine WL.bin (d := 37) (v := .string ⟨(mk0 p e n ++ List.replicate j (0 : UInt8) ++ [0]).toArray⟩) (cat_run (by (try simp only [List.length_append, List.length_cons, List.length_nil, List.length_replicate, be_len]); omega)) (k := ?_)
            refine WL.op (d := 5) (.string ⟨(mk0 p e n ++ List.replicate j (0 : UInt8) ++ [0]).toArray⟩) (k := ?_)
            refine WL.nil ?_
            refine WX.blockN ?_
            refine WX.rw (t := 5) (v := .string ⟨(mk0 p e n ++ List.replicate (j + 1) (0 : UInt8)).toArray⟩) (congrArg (fun l : List UInt8 => Value.string ⟨l.toArray⟩) (pad_one _ j)) (k := ?_)
            refine WX.round (j + 1) (by show (43 - (j + 1)) < (43 - j); omega) ⟨(by kernel_rfl), (by kernel_rfl), (by kernel_rfl), (by kernel_rfl), (by kernel_rfl), (by kernel_rfl), (by kernel_rfl), (by kernel_rfl), (by kernel_rfl), (by kernel_rfl), (by kernel_rfl), (by kernel_rfl), (by kernel_rfl), (by kernel_rfl), (by kernel_rfl), (by kernel_rfl), (by kernel_rfl), (by kernel_rfl), (by kernel_rfl), (by kernel_rfl), (by kernel_rfl), (by kernel_rfl), (by kernel_rfl), (by kernel_rfl), (by kernel_rfl), (by kernel_rfl), (by kernel_rfl), (by kernel_rfl), (by kernel_rfl), (by kernel_rfl), (by kernel_rfl), (by kernel_rfl), (by kernel_rfl), trivial⟩ ⟨K, hb39, hb40, (by omega)⟩
          · have ph41 := of_decide_eq_false h41
            refine WC.exit ?_
            refine WX.seqE ?_
            refine WX.seqE ?_
            refine WX.blockE ?_
            refine WX.seqN ?_
            refine WC.seq ?_
            refine WC.region ?_
            refine WL.op (d := 38) (.string ⟨(mk0 p e n ++ List.replicate j (0 : UInt8)).toArray⟩) (k := ?_)
            refine WL.op (d := 39) (.string ⟨(tagsS e n).toArray⟩) (k := ?_)
            refine WL.bin (d := 40) (v := .string ⟨(mk0 p e n ++ List.replicate j (0 : UInt8) ++ (tagsS e n)).toArray⟩) (cat_run (by (try simp only [List.length_append, List.length_cons, List.length_nil, List.length_replicate, be_len]); omega)) (k := ?_)
            refine WL.op (d := 2) (.string ⟨(mk0 p e n ++ List.replicate j (0 : UInt8) ++ (tagsS e n)).toArray⟩) (k := ?_)
            refine WL.op (d := 3) (.int .i64 0) (k := ?_)
            refine WL.nil ?_
            refine WX.seqN ?_
            refine WC.ret ?_
            refine WX.ret (rs := [.tmp 2, .tmp 3]) [.string ⟨(mk0 p e n ++ List.replicate j (0 : UInt8) ++ (tagsS e n)).toArray⟩, .int .i64 0] (.tuple #[.string ⟨(mk0 p e n ++ List.replicate j (0 : UInt8) ++ (tagsS e n)).toArray⟩, .int .i64 0]) ⟨(by kernel_rfl), (by kernel_rfl), trivial⟩ (k := ?_)
            exact ⟨by rw [mk0_end (j := j) (by omega)], K⟩
        · refine WL.callG (d := 28) (f := 59) (args := #[.int .u32 ((crc (p ++ ((be 8 e) ++ (be 8 n))) : Nat) : Int)]) (u02Bytes_c (n := crc (p ++ ((be 8 e) ++ (be 8 n)))) (by omega) w34) (k := fun e_ w42 h_ => ⟨.string ⟨(be 4 (crc (p ++ ((be 8 e) ++ (be 8 n))))).toArray⟩, h_.1, ?_⟩)
          have k43 := h_.2; clear h_
          replace hb4 := k43.heap hb4 id
          replace hb19 := k43.heap hb19 id
          replace K := K.trans (k43.any _)
          replace KC := KC.trans (k43.any _)
          refine WL.nil ?_
          refine WX.nxt KC ?_
          refine WA.step 5 (hi := rfl) (k := ?_)
          refine WL.conv (d := 22) (vx := .slice (some ⟨b16, 0, none⟩) 1 1) (v := .string ⟨#[(UInt8.ofNat ((p.length) % 256))]⟩) (run_ofBytes (T := 87) (S := 9) (E := 5) (l := [(UInt8.ofNat ((p.length) % 256))]) (by kernel_rfl) (by kernel_rfl) (by kernel_rfl) hb19 rfl (by kernel_rfl)) (k := ?_)
          refine WL.nil ?_
          refine WX.nxt KC ?_
          refine WA.quietR 12 (d := 29) (.string ⟨([(UInt8.ofNat ((p.length) % 256))] ++ (be 4 (crc (p ++ ((be 8 e) ++ (be 8 n)))))).toArray⟩) KC (exec_bin (fun _ => cat_run (by (try simp only [List.length_append, List.length_cons, List.length_nil, List.length_replicate, be_len]); omega))) (hi := rfl) (k := ?_)
          refine WA.quietR 15 (d := 32) (.string ⟨([(UInt8.ofNat ((p.length) % 256))] ++ (be 4 (crc (p ++ ((be 8 e) ++ (be 8 n))))) ++ p).toArray⟩) KC (exec_bin (fun _ => cat_run (by (try simp only [List.length_append, List.length_cons, List.length_nil, List.length_replicate, be_len]); omega))) (hi := rfl) (k := ?_)
          refine WA.step 16 (hi := rfl) (k := ?_)
          refine WL.op (d := 5) (.string ⟨([(UInt8.ofNat ((p.length) % 256))] ++ (be 4 (crc (p ++ ((be 8 e) ++ (be 8 n))))) ++ p).toArray⟩) (k := ?_)
          refine WL.nil ?_
          refine WX.nxtL ?_
          refine WA.done (k := ?_)
          clear KC
          refine WX.seqN ?_
          refine WC.seq ?_
          refine WC.block ?_
          refine WC.rw (t := 5) (v := .string ⟨(mk0 p e n ++ List.replicate 0 (0 : UInt8)).toArray⟩) (congrArg (fun l : List UInt8 => Value.string ⟨l.toArray⟩) (show [(UInt8.ofNat ((p.length) % 256))] ++ (be 4 (crc (p ++ ((be 8 e) ++ (be 8 n))))) ++ p = mk0 p e n ++ List.replicate 0 (0 : UInt8) by simp [mk0, tagsS, Nat.mod_eq_of_lt (show p.length < 256 by omega)])) (k := ?_)
          refine WC.rw (t := 4) (v := .string ⟨(tagsS e n).toArray⟩) (congrArg (fun l : List UInt8 => Value.string ⟨l.toArray⟩) rfl) (k := ?_)
          refine WC.loop (ι := Nat) (fun (j : Nat) => [(0, .agg #[.string ⟨(p).toArray⟩, .int .u64 ((e : Nat) : Int), .int .u64 ((n : Nat) : Int)]), (1, .pointer (some ⟨b1, 0, none⟩)), (2, .string ⟨#[]⟩), (3, .int .i64 0), (6, .pointer (some ⟨b1, 0, none⟩)), (7, .string ⟨(p).toArray⟩), (8, .int .i64 (p.length : Int)), (9, .bool (decide ((p.length : Int) > 43))), (10, .pointer (some ⟨b1, 1, none⟩)), (11, .int .u64 ((e : Nat) : Int)), (12, .string ⟨(be 8 e).toArray⟩), (13, .pointer (some ⟨b1, 2, none⟩)), (14, .int .u64 ((n : Nat) : Int)), (15, .string ⟨(be 8 n).toArray⟩), (16, .string ⟨((be 8 e) ++ (be 8 n)).toArray⟩), (4, .string ⟨(tagsS e n).toArray⟩), (17, .pointer (some ⟨b1, 0, none⟩)), (18, .string ⟨(p).toArray⟩), (19, .int .i64 (p.length : Int)), (20, .int .u8 ((UInt8.ofNat ((p.length) % 256)).toNat : Int)), (23, .pointer (some ⟨b1, 0, none⟩)), (24, .string ⟨(p).toArray⟩), (25, .string ⟨((be 8 e) ++ (be 8 n)).toArray⟩), (26, .string ⟨(p ++ ((be 8 e) ++ (be 8 n))).toArray⟩), (30, .pointer (some ⟨b1, 0, none⟩)), (31, .string ⟨(p).toArray⟩), (21, .slice (some ⟨b16, 0, none⟩) 1 1), (27, .int .u32 ((crc (p ++ ((be 8 e) ++ (be 8 n))) : Nat) : Int)), (28, .string ⟨(be 4 (crc (p ++ ((be 8 e) ++ (be 8 n))))).toArray⟩), (22, .string ⟨#[(UInt8.ofNat ((p.length) % 256))]⟩), (29, .string ⟨([(UInt8.ofNat ((p.length) % 256))] ++ (be 4 (crc (p ++ ((be 8 e) ++ (be 8 n)))))).toArray⟩), (32, .string ⟨([(UInt8.ofNat ((p.length) % 256))] ++ (be 4 (crc (p ++ ((be 8 e) ++ (be 8 n))))) ++ p).toArray⟩), (5, .string ⟨(mk0 p e n ++ List.replicate j (0 : UInt8)).toArray⟩)]) (fun (j : Nat) (w_ : World) => (Keeps (fun _ => False) w w_) ∧ (w_.heap[b1]? = some (.cells #[.string ⟨(p).toArray⟩, .int .u64 ((e : Nat) : Int), .int .u64 ((n : Nat) : Int)] 96 (0, 0))) ∧ (w_.heap[b16]? = some (.cells #[.int .u8 ((UInt8.ofNat ((p.length) % 256)).toNat : Int)] 5 (0, 0))) ∧ (j ≤ 43 - p.length)) (fun (j : Nat) => (43 - j)) 0 ⟨(by kernel_rfl), (by kernel_rfl), (by kernel_rfl), (by kernel_rfl), (by kernel_rfl), (by kernel_rfl), (by kernel_rfl), (by kernel_rfl), (by kernel_rfl), (by kernel_rfl), (by kernel_rfl), (by kernel_rfl), (by kernel_rfl), (by kernel_rfl), (by kernel_rfl), (by kernel_rfl), (by kernel_rfl), (by kernel_rfl), (by kernel_rfl), (by kernel_rfl), (by kernel_rfl), (by kernel_rfl), (by kernel_rfl), (by kernel_rfl), (by kernel_rfl), (by kernel_rfl), (by kernel_rfl), (by kernel_rfl), (by kernel_rfl), (by kernel_rfl), (by kernel_rfl), (by kernel_rfl), (by kernel_rfl), trivial⟩ ⟨K, hb4, hb19, (by omega)⟩ ?_
          rintro j w44 ⟨K, hb45, hb46, j1⟩
          have lm_ := mk0_len p e n
          have lj_ : (mk0 p e n ++ List.replicate j (0 : UInt8)).length = 5 + p.length + j := by simp [lm_]
          have lt_ := tagsS_len e n
          refine WC.seq ?_
          refine WC.seq ?_
          refine WC.region ?_
          refine WL.op (d := 33) (.string ⟨(mk0 p e n ++ List.replicate j (0 : UInt8)).toArray⟩) (k := ?_)
          refine WL.op (d := 34) (.int .i64 ((mk0 p e n ++ List.replicate j (0 : UInt8)).length : Int)) (k := ?_)
          refine WL.op (d := 35) (.bool (decide (((mk0 p e n ++ List.replicate j (0 : UInt8)).length : Int) < 48))) (k := ?_)
          refine WL.nil ?_
          refine WX.seqN ?_
          refine WC.cond (b := decide (((mk0 p e n ++ List.replicate j (0 : UInt8)).length : Int) < 48)) (ht := fun h47 => ?_) (hf := fun h47 => ?_)
          · have ph47 := of_decide_eq_true h47
            refine WC.skip ?_
            refine WX.seqN ?_
            refine WC.block ?_
            refine WC.region ?_
            refine WL.op (d := 36) (.string ⟨(mk0 p e n ++ List.replicate j (0 : UInt8)).toArray⟩) (k := ?_)
            refine WL.bin (d := 37) (v := .string ⟨(mk0 p e n ++ List.replicate j (0 : UInt8) ++ [0]).toArray⟩) (cat_run (by (try simp only [List.length_append, List.length_cons, List.length_nil, List.length_replicate, be_len]); omega)) (k := ?_)
            refine WL.op (d := 5) (.string ⟨(mk0 p e n ++ List.replicate j (0 : UInt8) ++ [0]).toArray⟩) (k := ?_)
            refine WL.nil ?_
            refine WX.blockN ?_
            refine WX.rw (t := 5) (v := .string ⟨(mk0 p e n ++ List.replicate (j + 1) (0 : UInt8)).toArray⟩) (congrArg (fun l : List UInt8 => Value.string ⟨l.toArray⟩) (pad_one _ j)) (k := ?_)
            refine WX.round (j + 1) (by show (43 - (j + 1)) < (43 - j); omega) ⟨(by kernel_rfl), (by kernel_rfl), (by kernel_rfl), (by kernel_rfl), (by kernel_rfl), (by kernel_rfl), (by kernel_rfl), (by kernel_rfl), (by kernel_rfl), (by kernel_rfl), (by kernel_rfl), (by kernel_rfl), (by kernel_rfl), (by kernel_rfl), (by kernel_rfl), (by kernel_rfl), (by kernel_rfl), (by kernel_rfl), (by kernel_rfl), (by kernel_rfl), (by kernel_rfl), (by kernel_rfl), (by kernel_rfl), (by kernel_rfl), (by kernel_rfl), (by kernel_rfl), (by kernel_rfl), (by kernel_rfl), (by kernel_rfl), (by kernel_rfl), (by kernel_rfl), (by kernel_rfl), (by kernel_rfl), trivial⟩ ⟨K, hb45, hb46, (by omega)⟩
          · have ph47 := of_decide_eq_false h47
            refine WC.exit ?_
            refine WX.seqE ?_
            refine WX.seqE ?_
            refine WX.blockE ?_
            refine WX.seqN ?_
            refine WC.seq ?_
            refine WC.region ?_
            refine WL.op (d := 38) (.string ⟨(mk0 p e n ++ List.replicate j (0 : UInt8)).toArray⟩) (k := ?_)
            refine WL.op (d := 39) (.string ⟨(tagsS e n).toArray⟩) (k := ?_)
            refine WL.bin (d := 40) (v := .string ⟨(mk0 p e n ++ List.replicate j (0 : UInt8) ++ (tagsS e n)).toArray⟩) (cat_run (by (try simp only [List.length_append, List.length_cons, List.length_nil, List.length_replicate, be_len]); omega)) (k := ?_)
            refine WL.op (d := 2) (.string ⟨(mk0 p e n ++ List.replicate j (0 : UInt8) ++ (tagsS e n)).toArray⟩) (k := ?_)
            refine WL.op (d := 3) (.int .i64 0) (k := ?_)
            refine WL.nil ?_
            refine WX.seqN ?_
            refine WC.ret ?_
            refine WX.ret (rs := [.tmp 2, .tmp 3]) [.string ⟨(mk0 p e n ++ List.replicate j (0 : UInt8) ++ (tagsS e n)).toArray⟩, .int .i64 0] (.tuple #[.string ⟨(mk0 p e n ++ List.replicate j (0 : UInt8) ++ (tagsS e n)).toArray⟩, .int .i64 0]) ⟨(by kernel_rfl), (by kernel_rfl), trivial⟩ (k := ?_)
            exact ⟨by rw [mk0_end (j := j) (by omega)], K⟩
    · refine WL.callG (d := 27) (f := 60) (args := #[.string ⟨(p ++ ((be 8 e) ++ (be 8 n))).toArray⟩]) (u02Sum_c (l := p ++ ((be 8 e) ++ (be 8 n))) (by show List.length (p ++ ((be 8 e) ++ (be 8 n))) ≤ _; first | omega | (simp; done) | (simp; omega)) w12) (k := fun e_ w49 h_ => ⟨.int .u32 ((crc (p ++ ((be 8 e) ++ (be 8 n))) : Nat) : Int), h_.1, ?_⟩)
      have k50 := h_.2; clear h_
      replace hb4 := k50.heap hb4 id
      replace K := K.trans (k50.any _)
      replace KC := KC.trans (k50.any _)
      have cl48 := crc_lt (p ++ ((be 8 e) ++ (be 8 n)))
      refine WL.nil ?_
      refine WX.nxt KC ?_
      refine WA.step2 4 11 (hi := rfl) (hj := rfl) (k1 := ?_) (k2 := ?_)
      · refine WL.newF (d := 21) (T := 5) #[.int .u8 ((UInt8.ofNat ((p.length) % 256)).toNat : Int)] (fun b => .slice (some ⟨b, 0, none⟩) 1 1) (k := fun b51 w52 g53 hb54 k55 => ?_)
        have z56 := Nat.le_trans K.size g53
        have zc57 := Nat.le_trans KC.size g53
        have n58 : b1 ≠ b51 := Nat.ne_of_lt (Nat.lt_of_lt_of_le (lt_of_heap hb4) g53)
        replace hb4 := k55.heap hb4 id
        replace K := K.trans (k55.any _)
        replace KC := KC.trans (k55.any _)
        refine WL.nil ?_
        refine WX.nxt KC ?_
        refine WA.step2 5 11 (hi := rfl) (hj := rfl) (k1 := ?_) (k2 := ?_)
        · refine WL.conv (d := 22) (vx := .slice (some ⟨b51, 0, none⟩) 1 1) (v := .string ⟨#[(UInt8.ofNat ((p.length) % 256))]⟩) (run_ofBytes (T := 87) (S := 9) (E := 5) (l := [(UInt8.ofNat ((p.length) % 256))]) (by kernel_rfl) (by kernel_rfl) (by kernel_rfl) hb54 rfl (by kernel_rfl)) (k := ?_)
          refine WL.nil ?_
          refine WX.nxt KC ?_
          refine WA.step 11 (hi := rfl) (k := ?_)
          refine WL.callG (d := 28) (f := 59) (args := #[.int .u32 ((crc (p ++ ((be 8 e) ++ (be 8 n))) : Nat) : Int)]) (u02Bytes_c (n := crc (p ++ ((be 8 e) ++ (be 8 n)))) (by omega) w52) (k := fun e_ w59 h_ => ⟨.string ⟨(be 4 (crc (p ++ ((be 8 e) ++ (be 8 n))))).toArray⟩, h_.1, ?_⟩)
          have k60 := h_.2; clear h_
          replace hb4 := k60.heap hb4 id
          replace hb54 := k60.heap hb54 id
          replace K := K.trans (k60.any _)
          replace KC := KC.trans (k60.any _)
          refine WL.nil ?_
          refine WX.nxt KC ?_
          refine WA.quietR 12 (d := 29) (.string ⟨([(UInt8.ofNat ((p.length) % 256))] ++ (be 4 (crc (p ++ ((be 8 e) ++ (be 8 n)))))).toArray⟩) KC (exec_bin (fun _ => cat_run (by (try simp only [List.length_append, List.length_cons, List.length_nil, List.length_replicate, be_len]); omega))) (hi := rfl) (k := ?_)
          refine WA.quietR 15 (d := 32) (.string ⟨([(UInt8.ofNat ((p.length) % 256))] ++ (be 4 (crc (p ++ ((be 8 e) ++ (be 8 n))))) ++ p).toArray⟩) KC (exec_bin (fun _ => cat_run (by (try simp only [List.length_append, List.length_cons, List.length_nil, List.length_replicate, be_len]); omega))) (hi := rfl) (k := ?_)
          refine WA.step 16 (hi := rfl) (k := ?_)
          refine WL.op (d := 5) (.string ⟨([(UInt8.ofNat ((p.length) % 256))] ++ (be 4 (crc (p ++ ((be 8 e) ++ (be 8 n))))) ++ p).toArray⟩) (k := ?_)
          refine WL.nil ?_
          refine WX.nxtL ?_
          refine WA.done (k := ?_)
          clear KC
          refine WX.seqN ?_
          refine WC.seq ?_
          refine WC.block ?_
          refine WC.rw (t := 5) (v := .string ⟨(mk0 p e n ++ List.replicate 0 (0 : UInt8)).toArray⟩) (congrArg (fun l : List UInt8 => Value.string ⟨l.toArray⟩) (show [(UInt8.ofNat ((p.length) % 256))] ++ (be 4 (crc (p ++ ((be 8 e) ++ (be 8 n))))) ++ p = mk0 p e n ++ List.replicate 0 (0 : UInt8) by simp [mk0, tagsS, Nat.mod_eq_of_lt (show p.length < 256 by omega)])) (k := ?_)
          refine WC.rw (t := 4) (v := .string ⟨(tagsS e n).toArray⟩) (congrArg (fun l : List UInt8 => Value.string ⟨l.toArray⟩) rfl) (k := ?_)
          refine WC.loop (ι := Nat) (fun (j : Nat) => [(0, .agg #[.string ⟨(p).toArray⟩, .int .u64 ((e : Nat) : Int), .int .u64 ((n : Nat) : Int)]), (1, .pointer (some ⟨b1, 0, none⟩)), (2, .string ⟨#[]⟩), (3, .int .i64 0), (6, .pointer (some ⟨b1, 0, none⟩)), (7, .string ⟨(p).toArray⟩), (8, .int .i64 (p.length : Int)), (9, .bool (decide ((p.length : Int) > 43))), (10, .pointer (some ⟨b1, 1, none⟩)), (11, .int .u64 ((e : Nat) : Int)), (12, .string ⟨(be 8 e).toArray⟩), (13, .pointer (some ⟨b1, 2, none⟩)), (14, .int .u64 ((n : Nat) : Int)), (15, .string ⟨(be 8 n).toArray⟩), (16, .string ⟨((be 8 e) ++ (be 8 n)).toArray⟩), (4, .string ⟨(tagsS e n).toArray⟩), (17, .pointer (some ⟨b1, 0, none⟩)), (18, .string ⟨(p).toArray⟩), (19, .int .i64 (p.length : Int)), (20, .int .u8 ((UInt8.ofNat ((p.length) % 256)).toNat : Int)), (23, .pointer (some ⟨b1, 0, none⟩)), (24, .string ⟨(p).toArray⟩), (25, .string ⟨((be 8 e) ++ (be 8 n)).toArray⟩), (26, .string ⟨(p ++ ((be 8 e) ++ (be 8 n))).toArray⟩), (30, .pointer (some ⟨b1, 0, none⟩)), (31, .string ⟨(p).toArray⟩), (27, .int .u32 ((crc (p ++ ((be 8 e) ++ (be 8 n))) : Nat) : Int)), (21, .slice (some ⟨b51, 0, none⟩) 1 1), (22, .string ⟨#[(UInt8.ofNat ((p.length) % 256))]⟩), (28, .string ⟨(be 4 (crc (p ++ ((be 8 e) ++ (be 8 n))))).toArray⟩), (29, .string ⟨([(UInt8.ofNat ((p.length) % 256))] ++ (be 4 (crc (p ++ ((be 8 e) ++ (be 8 n)))))).toArray⟩), (32, .string ⟨([(UInt8.ofNat ((p.length) % 256))] ++ (be 4 (crc (p ++ ((be 8 e) ++ (be 8 n))))) ++ p).toArray⟩), (5, .string ⟨(mk0 p e n ++ List.replicate j (0 : UInt8)).toArray⟩)]) (fun (j : Nat) (w_ : World) => (Keeps (fun _ => False) w w_) ∧ (w_.heap[b1]? = some (.cells #[.string ⟨(p).toArray⟩, .int .u64 ((e : Nat) : Int), .int .u64 ((n : Nat) : Int)] 96 (0, 0))) ∧ (w_.heap[b51]? = some (.cells #[.int .u8 ((UInt8.ofNat ((p.length) % 256)).toNat : Int)] 5 (0, 0))) ∧ (j ≤ 43 - p.length)) (fun (j : Nat) => (43 - j)) 0 ⟨(by kernel_rfl), (by kernel_rfl), (by kernel_rfl), (by kernel_rfl), (by kernel_rfl), (by kernel_rfl), (by kernel_rfl), (by kernel_rfl), (by kernel_rfl), (by kernel_rfl), (by kernel_rfl), (by kernel_rfl), (by kernel_rfl), (by kernel_rfl), (by kernel_rfl), (by kernel_rfl), (by kernel_rfl), (by kernel_rfl), (by kernel_rfl), (by kernel_rfl), (by kernel_rfl), (by kernel_rfl), (by kernel_rfl), (by kernel_rfl), (by kernel_rfl), (by kernel_rfl), (by kernel_rfl), (by kernel_rfl), (by kernel_rfl), (by kernel_rfl), (by kernel_rfl), (by kernel_rfl), (by kernel_rfl), trivial⟩ ⟨K, hb4, hb54, (by omega)⟩ ?_
          rintro j w61 ⟨K, hb62, hb63, j1⟩
          have lm_ := mk0_len p e n
          have lj_ : (mk0 p e n ++ List.replicate j (0 : UInt8)).length = 5 + p.length + j := by simp [lm_]
          have lt_ := tagsS_len e n
          refine WC.seq ?_
          refine WC.seq ?_
          refine WC.region ?_
          refine WL.op (d := 33) (.string ⟨(mk0 p e n ++ List.replicate j (0 : UInt8)).toArray⟩) (k := ?_)
          refine WL.op (d := 34) (.int .i64 ((mk0 p e n ++ List.replicate j (0 : UInt8)).length : Int)) (k := ?_)
          refine WL.op (d := 35) (.bool (decide (((mk0 p e n ++ List.replicate j (0 : UInt8)).length : Int) < 48))) (k := ?_)
          refine WL.nil ?_
          refine WX.seqN ?_
          refine WC.cond (b := decide (((mk0 p e n ++ List.replicate j (0 : UInt8)).length : Int) < 48)) (ht := fun h64 => ?_) (hf := fun h64 => ?_)
          · have ph64 := of_decide_eq_true h64
            refine WC.skip ?_
            refine WX.seqN ?_
            refine WC.block ?_
            refine WC.region ?_
            refine WL.op (d := 36) (.string ⟨(mk0 p e n ++ List.replicate j (0 : UInt8)).toArray⟩) (k := ?_)
            refine WL.bin (d := 37) (v := .string ⟨(mk0 p e n ++ List.replicate j (0 : UInt8) ++ [0]).toArray⟩) (cat_run (by (try simp only [List.length_append, List.length_cons, List.length_nil, List.length_replicate, be_len]); omega)) (k := ?_)
            refine WL.op (d := 5) (.string ⟨(mk0 p e n ++ List.replicate j (0 : UInt8) ++ [0]).toArray⟩) (k := ?_)
            refine WL.nil ?_
            refine WX.blockN ?_
            refine WX.rw (t := 5) (v := .string ⟨(mk0 p e n ++ List.replicate (j + 1) (0 : UInt8)).toArray⟩) (congrArg (fun l : List UInt8 => Value.string ⟨l.toArray⟩) (pad_one _ j)) (k := ?_)
            refine WX.round (j + 1) (by show (43 - (j + 1)) < (43 - j); omega) ⟨(by kernel_rfl), (by kernel_rfl), (by kernel_rfl), (by kernel_rfl), (by kernel_rfl), (by kernel_rfl), (by kernel_rfl), (by kernel_rfl), (by kernel_rfl), (by kernel_rfl), (by kernel_rfl), (by kernel_rfl), (by kernel_rfl), (by kernel_rfl), (by kernel_rfl), (by kernel_rfl), (by kernel_rfl), (by kernel_rfl), (by kernel_rfl), (by kernel_rfl), (by kernel_rfl), (by kernel_rfl), (by kernel_rfl), (by kernel_rfl), (by kernel_rfl), (by kernel_rfl), (by kernel_rfl), (by kernel_rfl), (by kernel_rfl), (by kernel_rfl), (by kernel_rfl), (by kernel_rfl), (by kernel_rfl), trivial⟩ ⟨K, hb62, hb63, (by omega)⟩
          · have ph64 := of_decide_eq_false h64
            refine WC.exit ?_
            refine WX.seqE ?_
            refine WX.seqE ?_
            refine WX.blockE ?_
            refine WX.seqN ?_
            refine WC.seq ?_
            refine WC.region ?_
            refine WL.op (d := 38) (.string ⟨(mk0 p e n ++ List.replicate j (0 : UInt8)).toArray⟩) (k := ?_)
            refine WL.op (d := 39) (.string ⟨(tagsS e n).toArray⟩) (k := ?_)
            refine WL.bin (d := 40) (v := .string ⟨(mk0 p e n ++ List.replicate j (0 : UInt8) ++ (tagsS e n)).toArray⟩) (cat_run (by (try simp only [List.length_append, List.length_cons, List.length_nil, List.length_replicate, be_len]); omega)) (k := ?_)
            refine WL.op (d := 2) (.string ⟨(mk0 p e n ++ List.replicate j (0 : UInt8) ++ (tagsS e n)).toArray⟩) (k := ?_)
            refine WL.op (d := 3) (.int .i64 0) (k := ?_)
            refine WL.nil ?_
            refine WX.seqN ?_
            refine WC.ret ?_
            refine WX.ret (rs := [.tmp 2, .tmp 3]) [.string ⟨(mk0 p e n ++ List.replicate j (0 : UInt8) ++ (tagsS e n)).toArray⟩, .int .i64 0] (.tuple #[.string ⟨(mk0 p e n ++ List.replicate j (0 : UInt8) ++ (tagsS e n)).toArray⟩, .int .i64 0]) ⟨(by kernel_rfl), (by kernel_rfl), trivial⟩ (k := ?_)
            exact ⟨by rw [mk0_end (j := j) (by omega)], K⟩
        · refine WL.callG (d := 28) (f := 59) (args := #[.int .u32 ((crc (p ++ ((be 8 e) ++ (be 8 n))) : Nat) : Int)]) (u02Bytes_c (n := crc (p ++ ((be 8 e) ++ (be 8 n)))) (by omega) w52) (k := fun e_ w65 h_ => ⟨.string ⟨(be 4 (crc (p ++ ((be 8 e) ++ (be 8 n))))).toArray⟩, h_.1, ?_⟩)
          have k66 := h_.2; clear h_
          replace hb4 := k66.heap hb4 id
          replace hb54 := k66.heap hb54 id
          replace K := K.trans (k66.any _)
          replace KC := KC.trans (k66.any _)
          refine WL.nil ?_
          refine WX.nxt KC ?_
          refine WA.step 5 (hi := rfl) (k := ?_)
          refine WL.conv (d := 22) (vx := .slice (some ⟨b51, 0, none⟩) 1 1) (v := .string ⟨#[(UInt8.ofNat ((p.length) % 256))]⟩) (run_ofBytes (T := 87) (S := 9) (E := 5) (l := [(UInt8.ofNat ((p.length) % 256))]) (by kernel_rfl) (by kernel_rfl) (by kernel_rfl) hb54 rfl (by kernel_rfl)) (k := ?_)
          refine WL.nil ?_
          refine WX.nxt KC ?_
          refine WA.quietR 12 (d := 29) (.string ⟨([(UInt8.ofNat ((p.length) % 256))] ++ (be 4 (crc (p ++ ((be 8 e) ++ (be 8 n)))))).toArray⟩) KC (exec_bin (fun _ => cat_run (by (try simp only [List.length_append, List.length_cons, List.length_nil, List.length_replicate, be_len]); omega))) (hi := rfl) (k := ?_)
          refine WA.quietR 15 (d := 32) (.string ⟨([(UInt8.ofNat ((p.length) % 256))] ++ (be 4 (crc (p ++ ((be 8 e) ++ (be 8 n))))) ++ p).toArray⟩) KC (exec_bin (fun _ => cat_run (by (try simp only [List.length_append, List.length_cons, List.length_nil, List.length_replicate, be_len]); omega))) (hi := rfl) (k := ?_)
          refine WA.step 16 (hi := rfl) (k := ?_)
          refine WL.op (d := 5) (.string ⟨([(UInt8.ofNat ((p.length) % 256))] ++ (be 4 (crc (p ++ ((be 8 e) ++ (be 8 n))))) ++ p).toArray⟩) (k := ?_)
          refine WL.nil ?_
          refine WX.nxtL ?_
          refine WA.done (k := ?_)
          clear KC
          refine WX.seqN ?_
          refine WC.seq ?_
          refine WC.block ?_
          refine WC.rw (t := 5) (v := .string ⟨(mk0 p e n ++ List.replicate 0 (0 : UInt8)).toArray⟩) (congrArg (fun l : List UInt8 => Value.string ⟨l.toArray⟩) (show [(UInt8.ofNat ((p.length) % 256))] ++ (be 4 (crc (p ++ ((be 8 e) ++ (be 8 n))))) ++ p = mk0 p e n ++ List.replicate 0 (0 : UInt8) by simp [mk0, tagsS, Nat.mod_eq_of_lt (show p.length < 256 by omega)])) (k := ?_)
          refine WC.rw (t := 4) (v := .string ⟨(tagsS e n).toArray⟩) (congrArg (fun l : List UInt8 => Value.string ⟨l.toArray⟩) rfl) (k := ?_)
          refine WC.loop (ι := Nat) (fun (j : Nat) => [(0, .agg #[.string ⟨(p).toArray⟩, .int .u64 ((e : Nat) : Int), .int .u64 ((n : Nat) : Int)]), (1, .pointer (some ⟨b1, 0, none⟩)), (2, .string ⟨#[]⟩), (3, .int .i64 0), (6, .pointer (some ⟨b1, 0, none⟩)), (7, .string ⟨(p).toArray⟩), (8, .int .i64 (p.length : Int)), (9, .bool (decide ((p.length : Int) > 43))), (10, .pointer (some ⟨b1, 1, none⟩)), (11, .int .u64 ((e : Nat) : Int)), (12, .string ⟨(be 8 e).toArray⟩), (13, .pointer (some ⟨b1, 2, none⟩)), (14, .int .u64 ((n : Nat) : Int)), (15, .string ⟨(be 8 n).toArray⟩), (16, .string ⟨((be 8 e) ++ (be 8 n)).toArray⟩), (4, .string ⟨(tagsS e n).toArray⟩), (17, .pointer (some ⟨b1, 0, none⟩)), (18, .string ⟨(p).toArray⟩), (19, .int .i64 (p.length : Int)), (20, .int .u8 ((UInt8.ofNat ((p.length) % 256)).toNat : Int)), (23, .pointer (some ⟨b1, 0, none⟩)), (24, .string ⟨(p).toArray⟩), (25, .string ⟨((be 8 e) ++ (be 8 n)).toArray⟩), (26, .string ⟨(p ++ ((be 8 e) ++ (be 8 n))).toArray⟩), (30, .pointer (some ⟨b1, 0, none⟩)), (31, .string ⟨(p).toArray⟩), (27, .int .u32 ((crc (p ++ ((be 8 e) ++ (be 8 n))) : Nat) : Int)), (21, .slice (some ⟨b51, 0, none⟩) 1 1), (28, .string ⟨(be 4 (crc (p ++ ((be 8 e) ++ (be 8 n))))).toArray⟩), (22, .string ⟨#[(UInt8.ofNat ((p.length) % 256))]⟩), (29, .string ⟨([(UInt8.ofNat ((p.length) % 256))] ++ (be 4 (crc (p ++ ((be 8 e) ++ (be 8 n)))))).toArray⟩), (32, .string ⟨([(UInt8.ofNat ((p.length) % 256))] ++ (be 4 (crc (p ++ ((be 8 e) ++ (be 8 n))))) ++ p).toArray⟩), (5, .string ⟨(mk0 p e n ++ List.replicate j (0 : UInt8)).toArray⟩)]) (fun (j : Nat) (w_ : World) => (Keeps (fun _ => False) w w_) ∧ (w_.heap[b1]? = some (.cells #[.string ⟨(p).toArray⟩, .int .u64 ((e : Nat) : Int), .int .u64 ((n : Nat) : Int)] 96 (0, 0))) ∧ (w_.heap[b51]? = some (.cells #[.int .u8 ((UInt8.ofNat ((p.length) % 256)).toNat : Int)] 5 (0, 0))) ∧ (j ≤ 43 - p.length)) (fun (j : Nat) => (43 - j)) 0 ⟨(by kernel_rfl), (by kernel_rfl), (by kernel_rfl), (by kernel_rfl), (by kernel_rfl), (by kernel_rfl), (by kernel_rfl), (by kernel_rfl), (by kernel_rfl), (by kernel_rfl), (by kernel_rfl), (by kernel_rfl), (by kernel_rfl), (by kernel_rfl), (by kernel_rfl), (by kernel_rfl), (by kernel_rfl), (by kernel_rfl), (by kernel_rfl), (by kernel_rfl), (by kernel_rfl), (by kernel_rfl), (by kernel_rfl), (by kernel_rfl), (by kernel_rfl), (by kernel_rfl), (by kernel_rfl), (by kernel_rfl), (by kernel_rfl), (by kernel_rfl), (by kernel_rfl), (by kernel_rfl), (by kernel_rfl), trivial⟩ ⟨K, hb4, hb54, (by omega)⟩ ?_
          rintro j w67 ⟨K, hb68, hb69, j1⟩
          have lm_ := mk0_len p e n
          have lj_ : (mk0 p e n ++ List.replicate j (0 : UInt8)).length = 5 + p.length + j := by simp [lm_]
          have lt_ := tagsS_len e n
          refine WC.seq ?_
          refine WC.seq ?_
          refine WC.region ?_
          refine WL.op (d := 33) (.string ⟨(mk0 p e n ++ List.replicate j (0 : UInt8)).toArray⟩) (k := ?_)
          refine WL.op (d := 34) (.int .i64 ((mk0 p e n ++ List.replicate j (0 : UInt8)).length : Int)) (k := ?_)
          refine WL.op (d := 35) (.bool (decide (((mk0 p e n ++ List.replicate j (0 : UInt8)).length : Int) < 48))) (k := ?_)
          refine WL.nil ?_
          refine WX.seqN ?_
          refine WC.cond (b := decide (((mk0 p e n ++ List.replicate j (0 : UInt8)).length : Int) < 48)) (ht := fun h70 => ?_) (hf := fun h70 => ?_)
          · have ph70 := of_decide_eq_true h70
            refine WC.skip ?_
            refine WX.seqN ?_
            refine WC.block ?_
            refine WC.region ?_
            refine WL.op (d := 36) (.string ⟨(mk0 p e n ++ List.replicate j (0 : UInt8)).toArray⟩) (k := ?_)
            refine WL.bin (d := 37) (v := .string ⟨(mk0 p e n ++ List.replicate j (0 : UInt8) ++ [0]).toArray⟩) (cat_run (by (try simp only [List.length_append, List.length_cons, List.length_nil, List.length_replicate, be_len]); omega)) (k := ?_)
            refine WL.op (d := 5) (.string ⟨(mk0 p e n ++ List.replicate j (0 : UInt8) ++ [0]).toArray⟩) (k := ?_)
            refine WL.nil ?_
            refine WX.blockN ?_
            refine WX.rw (t := 5) (v := .string ⟨(mk0 p e n ++ List.replicate (j + 1) (0 : UInt8)).toArray⟩) (congrArg (fun l : List UInt8 => Value.string ⟨l.toArray⟩) (pad_one _ j)) (k := ?_)
            refine WX.round (j + 1) (by show (43 - (j + 1)) < (43 - j); omega) ⟨(by kernel_rfl), (by kernel_rfl), (by kernel_rfl), (by kernel_rfl), (by kernel_rfl), (by kernel_rfl), (by kernel_rfl), (by kernel_rfl), (by kernel_rfl), (by kernel_rfl), (by kernel_rfl), (by kernel_rfl), (by kernel_rfl), (by kernel_rfl), (by kernel_rfl), (by kernel_rfl), (by kernel_rfl), (by kernel_rfl), (by kernel_rfl), (by kernel_rfl), (by kernel_rfl), (by kernel_rfl), (by kernel_rfl), (by kernel_rfl), (by kernel_rfl), (by kernel_rfl), (by kernel_rfl), (by kernel_rfl), (by kernel_rfl), (by kernel_rfl), (by kernel_rfl), (by kernel_rfl), (by kernel_rfl), trivial⟩ ⟨K, hb68, hb69, (by omega)⟩
          · have ph70 := of_decide_eq_false h70
            refine WC.exit ?_
            refine WX.seqE ?_
            refine WX.seqE ?_
            refine WX.blockE ?_
            refine WX.seqN ?_
            refine WC.seq ?_
            refine WC.region ?_
            refine WL.op (d := 38) (.string ⟨(mk0 p e n ++ List.replicate j (0 : UInt8)).toArray⟩) (k := ?_)
            refine WL.op (d := 39) (.string ⟨(tagsS e n).toArray⟩) (k := ?_)
            refine WL.bin (d := 40) (v := .string ⟨(mk0 p e n ++ List.replicate j (0 : UInt8) ++ (tagsS e n)).toArray⟩) (cat_run (by (try simp only [List.length_append, List.length_cons, List.length_nil, List.length_replicate, be_len]); omega)) (k := ?_)
            refine WL.op (d := 2) (.string ⟨(mk0 p e n ++ List.replicate j (0 : UInt8) ++ (tagsS e n)).toArray⟩) (k := ?_)
            refine WL.op (d := 3) (.int .i64 0) (k := ?_)
            refine WL.nil ?_
            refine WX.seqN ?_
            refine WC.ret ?_
            refine WX.ret (rs := [.tmp 2, .tmp 3]) [.string ⟨(mk0 p e n ++ List.replicate j (0 : UInt8) ++ (tagsS e n)).toArray⟩, .int .i64 0] (.tuple #[.string ⟨(mk0 p e n ++ List.replicate j (0 : UInt8) ++ (tagsS e n)).toArray⟩, .int .i64 0]) ⟨(by kernel_rfl), (by kernel_rfl), trivial⟩ (k := ?_)
            exact ⟨by rw [mk0_end (j := j) (by omega)], K⟩
      · refine WL.callG (d := 28) (f := 59) (args := #[.int .u32 ((crc (p ++ ((be 8 e) ++ (be 8 n))) : Nat) : Int)]) (u02Bytes_c (n := crc (p ++ ((be 8 e) ++ (be 8 n)))) (by omega) w49) (k := fun e_ w71 h_ => ⟨.string ⟨(be 4 (crc (p ++ ((be 8 e) ++ (be 8 n))))).toArray⟩, h_.1, ?_⟩)
        have k72 := h_.2; clear h_
        replace hb4 := k72.heap hb4 id
        replace K := K.trans (k72.any _)
        replace KC := KC.trans (k72.any _)
        refine WL.nil ?_
        refine WX.nxt KC ?_
        refine WA.step 4 (hi := rfl) (k := ?_)
        refine WL.newF (d := 21) (T := 5) #[.int .u8 ((UInt8.ofNat ((p.length) % 256)).toNat : Int)] (fun b => .slice (some ⟨b, 0, none⟩) 1 1) (k := fun b73 w74 g75 hb76 k77 => ?_)
        have z78 := Nat.le_trans K.size g75
        have zc79 := Nat.le_trans KC.size g75
        have n80 : b1 ≠ b73 := Nat.ne_of_lt (Nat.lt_of_lt_of_le (lt_of_heap hb4) g75)
        replace hb4 := k77.heap hb4 id
        replace K := K.trans (k77.any _)
        replace KC := KC.trans (k77.any _)
        refine WL.nil ?_
        refine WX.nxt KC ?_
        refine WA.step 5 (hi := rfl) (k := ?_)
        refine WL.conv (d := 22) (vx := .slice (some ⟨b73, 0, none⟩) 1 1) (v := .string ⟨#[(UInt8.ofNat ((p.length) % 256))]⟩) (run_ofBytes (T := 87) (S := 9) (E := 5) (l := [(UInt8.ofNat ((p.length) % 256))]) (by kernel_rfl) (by kernel_rfl) (by kernel_rfl) hb76 rfl (by kernel_rfl)) (k := ?_)
        refine WL.nil ?_
        refine WX.nxt KC ?_
        refine WA.quietR 12 (d := 29) (.string ⟨([(UInt8.ofNat ((p.length) % 256))] ++ (be 4 (crc (p ++ ((be 8 e) ++ (be 8 n)))))).toArray⟩) KC (exec_bin (fun _ => cat_run (by (try simp only [List.length_append, List.length_cons, List.length_nil, List.length_replicate, be_len]); omega))) (hi := rfl) (k := ?_)
        refine WA.quietR 15 (d := 32) (.string ⟨([(UInt8.ofNat ((p.length) % 256))] ++ (be 4 (crc (p ++ ((be 8 e) ++ (be 8 n))))) ++ p).toArray⟩) KC (exec_bin (fun _ => cat_run (by (try simp only [List.length_append, List.length_cons, List.length_nil, List.length_replicate, be_len]); omega))) (hi := rfl) (k := ?_)
        refine WA.step 16 (hi := rfl) (k := ?_)
        refine WL.op (d := 5) (.string ⟨([(UInt8.ofNat ((p.length) % 256))] ++ (be 4 (crc (p ++ ((be 8 e) ++ (be 8 n))))) ++ p).toArray⟩) (k := ?_)
        refine WL.nil ?_
        refine WX.nxtL ?_
        refine WA.done (k := ?_)
        clear KC
        refine WX.seqN ?_
        refine WC.seq ?_
        refine WC.block ?_
        refine WC.rw (t := 5) (v := .string ⟨(mk0 p e n ++ List.replicate 0 (0 : UInt8)).toArray⟩) (congrArg (fun l : List UInt8 => Value.string ⟨l.toArray⟩) (show [(UInt8.ofNat ((p.length) % 256))] ++ (be 4 (crc (p ++ ((be 8 e) ++ (be 8 n))))) ++ p = mk0 p e n ++ List.replicate 0 (0 : UInt8) by simp [mk0, tagsS, Nat.mod_eq_of_lt (show p.length < 256 by omega)])) (k := ?_)
        refine WC.rw (t := 4) (v := .string ⟨(tagsS e n).toArray⟩) (congrArg (fun l : List UInt8 => Value.string ⟨l.toArray⟩) rfl) (k := ?_)
        refine WC.loop (ι := Nat) (fun (j : Nat) => [(0, .agg #[.string ⟨(p).toArray⟩, .int .u64 ((e : Nat) : Int), .int .u64 ((n : Nat) : Int)]), (1, .pointer (some ⟨b1, 0, none⟩)), (2, .string ⟨#[]⟩), (3, .int .i64 0), (6, .pointer (some ⟨b1, 0, none⟩)), (7, .string ⟨(p).toArray⟩), (8, .int .i64 (p.length : Int)), (9, .bool (decide ((p.length : Int) > 43))), (10, .pointer (some ⟨b1, 1, none⟩)), (11, .int .u64 ((e : Nat) : Int)), (12, .string ⟨(be 8 e).toArray⟩), (13, .pointer (some ⟨b1, 2, none⟩)), (14, .int .u64 ((n : Nat) : Int)), (15, .string ⟨(be 8 n).toArray⟩), (16, .string ⟨((be 8 e) ++ (be 8 n)).toArray⟩), (4, .string ⟨(tagsS e n).toArray⟩), (17, .pointer (some ⟨b1, 0, none⟩)), (18, .string ⟨(p).toArray⟩), (19, .int .i64 (p.length : Int)), (20, .int .u8 ((UInt8.ofNat ((p.length) % 256)).toNat : Int)), (23, .pointer (some ⟨b1, 0, none⟩)), (24, .string ⟨(p).toArray⟩), (25, .string ⟨((be 8 e) ++ (be 8 n)).toArray⟩), (26, .string ⟨(p ++ ((be 8 e) ++ (be 8 n))).toArray⟩), (30, .pointer (some ⟨b1, 0, none⟩)), (31, .string ⟨(p).toArray⟩), (27, .int .u32 ((crc (p ++ ((be 8 e) ++ (be 8 n))) : Nat) : Int)), (28, .string ⟨(be 4 (crc (p ++ ((be 8 e) ++ (be 8 n))))).toArray⟩), (21, .slice (some ⟨b73, 0, none⟩) 1 1), (22, .string ⟨#[(UInt8.ofNat ((p.length) % 256))]⟩), (29, .string ⟨([(UInt8.ofNat ((p.length) % 256))] ++ (be 4 (crc (p ++ ((be 8 e) ++ (be 8 n)))))).toArray⟩), (32, .string ⟨([(UInt8.ofNat ((p.length) % 256))] ++ (be 4 (crc (p ++ ((be 8 e) ++ (be 8 n))))) ++ p).toArray⟩), (5, .string ⟨(mk0 p e n ++ List.replicate j (0 : UInt8)).toArray⟩)]) (fun (j : Nat) (w_ : World) => (Keeps (fun _ => False) w w_) ∧ (w_.heap[b1]? = some (.cells #[.string ⟨(p).toArray⟩, .int .u64 ((e : Nat) : Int), .int .u64 ((n : Nat) : Int)] 96 (0, 0))) ∧ (w_.heap[b73]? = some (.cells #[.int .u8 ((UInt8.ofNat ((p.length) % 256)).toNat : Int)] 5 (0, 0))) ∧ (j ≤ 43 - p.length)) (fun (j : Nat) => (43 - j)) 0 ⟨(by kernel_rfl), (by kernel_rfl), (by kernel_rfl), (by kernel_rfl), (by kernel_rfl), (by kernel_rfl), (by kernel_rfl), (by kernel_rfl), (by kernel_rfl), (by kernel_rfl), (by kernel_rfl), (by kernel_rfl), (by kernel_rfl), (by kernel_rfl), (by kernel_rfl), (by kernel_rfl), (by kernel_rfl), (by kernel_rfl), (by kernel_rfl), (by kernel_rfl), (by kernel_rfl), (by kernel_rfl), (by kernel_rfl), (by kernel_rfl), (by kernel_rfl), (by kernel_rfl), (by kernel_rfl), (by kernel_rfl), (by kernel_rfl), (by kernel_rfl), (by kernel_rfl), (by kernel_rfl), (by kernel_rfl), trivial⟩ ⟨K, hb4, hb76, (by omega)⟩ ?_
        rintro j w81 ⟨K, hb82, hb83, j1⟩
        have lm_ := mk0_len p e n
        have lj_ : (mk0 p e n ++ List.replicate j (0 : UInt8)).length = 5 + p.length + j := by simp [lm_]
        have lt_ := tagsS_len e n
        refine WC.seq ?_
        refine WC.seq ?_
        refine WC.region ?_
        refine WL.op (d := 33) (.string ⟨(mk0 p e n ++ List.replicate j (0 : UInt8)).toArray⟩) (k := ?_)
        refine WL.op (d := 34) (.int .i64 ((mk0 p e n ++ List.replicate j (0 : UInt8)).length : Int)) (k := ?_)
        refine WL.op (d := 35) (.bool (decide (((mk0 p e n ++ List.replicate j (0 : UInt8)).length : Int) < 48))) (k := ?_)
        refine WL.nil ?_
        refine WX.seqN ?_
        refine WC.cond (b := decide (((mk0 p e n ++ List.replicate j (0 : UInt8)).length : Int) < 48)) (ht := fun h84 => ?_) (hf := fun h84 => ?_)
        · have ph84 := of_decide_eq_true h84
          refine WC.skip ?_
          refine WX.seqN ?_
          refine WC.block ?_
          refine WC.region ?_
          refine WL.op (d := 36) (.string ⟨(mk0 p e n ++ List.replicate j (0 : UInt8)).toArray⟩) (k := ?_)
          refine WL.bin (d := 37) (v := .string ⟨(mk0 p e n ++ List.replicate j (0 : UInt8) ++ [0]).toArray⟩) (cat_run (by (try simp only [List.length_append, List.length_cons, List.length_nil, List.length_replicate, be_len]); omega)) (k := ?_)
          refine WL.op (d := 5) (.string ⟨(mk0 p e n ++ List.replicate j (0 : UInt8) ++ [0]).toArray⟩) (k := ?_)
          refine WL.nil ?_
          refine WX.blockN ?_
          refine WX.rw (t := 5) (v := .string ⟨(mk0 p e n ++ List.replicate (j + 1) (0 : UInt8)).toArray⟩) (congrArg (fun l : List UInt8 => Value.string ⟨l.toArray⟩) (pad_one _ j)) (k := ?_)
          refine WX.round (j + 1) (by show (43 - (j + 1)) < (43 - j); omega) ⟨(by kernel_rfl), (by kernel_rfl), (by kernel_rfl), (by kernel_rfl), (by kernel_rfl), (by kernel_rfl), (by kernel_rfl), (by kernel_rfl), (by kernel_rfl), (by kernel_rfl), (by kernel_rfl), (by kernel_rfl), (by kernel_rfl), (by kernel_rfl), (by kernel_rfl), (by kernel_rfl), (by kernel_rfl), (by kernel_rfl), (by kernel_rfl), (by kernel_rfl), (by kernel_rfl), (by kernel_rfl), (by kernel_rfl), (by kernel_rfl), (by kernel_rfl), (by kernel_rfl), (by kernel_rfl), (by kernel_rfl), (by kernel_rfl), (by kernel_rfl), (by kernel_rfl), (by kernel_rfl), (by kernel_rfl), trivial⟩ ⟨K, hb82, hb83, (by omega)⟩
        · have ph84 := of_decide_eq_false h84
          refine WC.exit ?_
          refine WX.seqE ?_
          refine WX.seqE ?_
          refine WX.blockE ?_
          refine WX.seqN ?_
          refine WC.seq ?_
          refine WC.region ?_
          refine WL.op (d := 38) (.string ⟨(mk0 p e n ++ List.replicate j (0 : UInt8)).toArray⟩) (k := ?_)
          refine WL.op (d := 39) (.string ⟨(tagsS e n).toArray⟩) (k := ?_)
          refine WL.bin (d := 40) (v := .string ⟨(mk0 p e n ++ List.replicate j (0 : UInt8) ++ (tagsS e n)).toArray⟩) (cat_run (by (try simp only [List.length_append, List.length_cons, List.length_nil, List.length_replicate, be_len]); omega)) (k := ?_)
          refine WL.op (d := 2) (.string ⟨(mk0 p e n ++ List.replicate j (0 : UInt8) ++ (tagsS e n)).toArray⟩) (k := ?_)
          refine WL.op (d := 3) (.int .i64 0) (k := ?_)
          refine WL.nil ?_
          refine WX.seqN ?_
          refine WC.ret ?_
          refine WX.ret (rs := [.tmp 2, .tmp 3]) [.string ⟨(mk0 p e n ++ List.replicate j (0 : UInt8) ++ (tagsS e n)).toArray⟩, .int .i64 0] (.tuple #[.string ⟨(mk0 p e n ++ List.replicate j (0 : UInt8) ++ (tagsS e n)).toArray⟩, .int .i64 0]) ⟨(by kernel_rfl), (by kernel_rfl), trivial⟩ (k := ?_)
          exact ⟨by rw [mk0_end (j := j) (by omega)], K⟩

set_option maxRecDepth 100000 in
set_option maxHeartbeats 4000000 in
theorem u04Make_no {p : List UInt8} {e n : Nat} (hp : ¬ p.length ≤ 43) (hpm : p.length ≤ 1000000) (he : e < 18446744073709551616) (hn : n < 18446744073709551616) (w : World) : Calls Tryz.prog 43 #[.agg #[.string ⟨p.toArray⟩, .int .u64 (e : Int), .int .u64 (n : Int)]] w fun e_ w' => e_ = .returned (.tuple #[.string ⟨([] : List UInt8).toArray⟩, .int .i64 1]) ∧ Adds w w' := by
  have K : Keeps (fun _ => False) w w := Keeps.refl _ w
  refine Calls.start Tryz.func43 rfl (by kernel_rfl) ?_
  refine WC.seq ?_
  refine WC.region ?_
  refine WL.new (d := 1) (T := 96) #[.string ⟨(p).toArray⟩, .int .u64 ((e : Nat) : Int), .int .u64 ((n : Nat) : Int)] (k := fun b1 w2 g3 hb4 k5 => ?_)
  have z6 := Nat.le_trans K.size g3
  replace K := K.trans (k5.any _)
  refine WL.op (d := 2) (.string ⟨#[]⟩) (k := ?_)
  refine WL.op (d := 3) (.int .i64 0) (k := ?_)
  refine WL.nil ?_
  refine WX.seqN ?_
  refine WC.seq ?_
  refine WC.seq ?_
  refine WC.region ?_
  refine WL.op (d := 6) (.pointer (some ⟨b1, 0, none⟩)) (k := ?_)
  refine WL.load (v := .string ⟨(p).toArray⟩) (ld1 (T := 9) (i := 0) hb4) (k := ?_)
  refine WL.op (d := 8) (.int .i64 (p.length : Int)) (k := ?_)
  refine WL.op (d := 9) (.bool (decide ((p.length : Int) > 43))) (k := ?_)
  refine WL.nil ?_
  refine WX.seqN ?_
  refine WC.cond (b := decide ((p.length : Int) > 43)) (ht := fun h7 => ?_) (hf := fun h7 => ?_)
  · have ph7 := of_decide_eq_true h7
    refine WC.seq ?_
    refine WC.region ?_
    refine WL.op (d := 2) (.string ⟨#[]⟩) (k := ?_)
    refine WL.op (d := 3) (.int .i64 1) (k := ?_)
    refine WL.nil ?_
    refine WX.seqN ?_
    refine WC.ret ?_
    refine WX.seqR ?_
    refine WX.ret (rs := [.tmp 2, .tmp 3]) [.string ⟨#[]⟩, .int .i64 1] (.tuple #[.string ⟨#[]⟩, .int .i64 1]) ⟨(by kernel_rfl), (by kernel_rfl), trivial⟩ (k := ?_)
    exact ⟨rfl, K⟩
  · have ph7 := of_decide_eq_false h7
    refine WC.skip ?_
    refine WX.seqN ?_
    refine WC.seq ?_
    refine WC.quiet (k := ?_)
    refine WQ.op (d := 10) (.pointer (some ⟨b1, 1, none⟩)) (k := ?_)
    refine WQ.load (v := .int .u64 ((e : Nat) : Int)) (fun w_ k_ => ld1 (T := 29) (i := 1) (k_.heap hb4 id)) (k := ?_)
    refine WQ.callG (d := 12) (f := 58) (args := #[.int .u64 ((e : Nat) : Int)]) (v := .string ⟨(be 8 e).toArray⟩) (fun w_ k_ => u04eight_c (n := e) (by omega) w_) addsR (k := ?_)
    have bl8 := be_len 8 e
    refine WQ.op (d := 13) (.pointer (some ⟨b1, 2, none⟩)) (k := ?_)
    refine WQ.load (v := .int .u64 ((n : Nat) : Int)) (fun w_ k_ => ld1 (T := 29) (i := 2) (k_.heap hb4 id)) (k := ?_)
    refine WQ.callG (d := 15) (f := 58) (args := #[.int .u64 ((n : Nat) : Int)]) (v := .string ⟨(be 8 n).toArray⟩) (fun w_ k_ => u04eight_c (n := n) (by omega) w_) addsR (k := ?_)
    have bl9 := be_len 8 n
    refine WQ.bin (d := 16) (v := .string ⟨((be 8 e) ++ (be 8 n)).toArray⟩) (fun _ => cat_run (by (try simp only [List.length_append, List.length_cons, List.length_nil, List.length_replicate, be_len]); omega)) (k := ?_)
    refine WQ.op (d := 4) (.string ⟨((be 8 e) ++ (be 8 n)).toArray⟩) (k := ?_)
    refine WQ.nilX (fun w10 k11 => ?_)
    replace hb4 := k11.heap hb4 id
    replace K := K.trans (k11.any _)
    refine WX.seqN ?_
    refine WC.seq ?_
    refine WC.mixed (fun _ => False) 16 (k := fun w12 k13 => ?_)
    replace hb4 := k13.heap hb4 id
    replace K := K.trans (k13.any _)
    have KC := Keeps.refl (fun _ => False) w12
    have bh14 := hb4
    have Kb := K
    refine WA.quiet 0 (d := 17) (.pointer (some ⟨b1, 0, none⟩)) KC (hi := rfl) (k := ?_)
    refine WA.quietR 1 (d := 18) (.string ⟨(p).toArray⟩) KC (exec_load (fun w_ k_ => ld1 (T := 9) (i := 0) (k_.heap bh14 id))) (hi := rfl) (k := ?_)
    refine WA.quiet 2 (d := 19) (.int .i64 (p.length : Int)) KC (hi := rfl) (k := ?_)
    have ub15 := u8_lt (UInt8.ofNat ((p.length) % 256))
    refine WA.quiet 3 (d := 20) (.int .u8 (IntKind.u8.wrap (p.length : Int))) KC (hi := rfl) (k := ?_)
    refine WA.rw (t := 20) (v := .int .u8 ((UInt8.ofNat ((p.length) % 256)).toNat : Int)) (congrArg (Value.int .u8) (byte_nat (p.length))) (k := ?_)
    refine WA.quiet 6 (d := 23) (.pointer (some ⟨b1, 0, none⟩)) KC (hi := rfl) (k := ?_)
    refine WA.quietR 7 (d := 24) (.string ⟨(p).toArray⟩) KC (exec_load (fun w_ k_ => ld1 (T := 9) (i := 0) (k_.heap bh14 id))) (hi := rfl) (k := ?_)
    refine WA.quiet 8 (d := 25) (.string ⟨((be 8 e) ++ (be 8 n)).toArray⟩) KC (hi := rfl) (k := ?_)
    refine WA.quietR 9 (d := 26) (.string ⟨(p ++ ((be 8 e) ++ (be 8 n))).toArray⟩) KC (exec_bin (fun _ => cat_run (by (try simp only [List.length_append, List.length_cons, List.length_nil, List.length_replicate, be_len]); omega))) (hi := rfl) (k := ?_)
    refine WA.quiet 13 (d := 30) (.pointer (some ⟨b1, 0, none⟩)) KC (hi := rfl) (k := ?_)
    refine WA.quietR 14 (d := 31) (.string ⟨(p).toArray⟩) KC (exec_load (fun w_ k_ => ld1 (T := 9) (i := 0) (k_.heap bh14 id))) (hi := rfl) (k := ?_)
    refine WA.step2 4 10 (hi := rfl) (hj := rfl) (k1 := ?_) (k2 := ?_)
    · refine WL.newF (d := 21) (T := 5) #[.int .u8 ((UInt8.ofNat ((p.length) % 256)).toNat : Int)] (fun b => .slice (some ⟨b, 0, none⟩) 1 1) (k := fun b16 w17 g18 hb19 k20 => ?_)
      have z21 := Nat.le_trans K.size g18
      have zc22 := Nat.le_trans KC.size g18
      have n23 : b1 ≠ b16 := Nat.ne_of_lt (Nat.lt_of_lt_of_le (lt_of_heap hb4) g18)
      replace hb4 := k20.heap hb4 id
      replace K := K.trans (k20.any _)
      replace KC := KC.trans (k20.any _)
      refine WL.nil ?_
      refine WX.nxt KC ?_
      refine WA.step2 5 10 (hi := rfl) (hj := rfl) (k1 := ?_) (k2 := ?_)
      · refine WL.conv (d := 22) (vx := .slice (some ⟨b16, 0, none⟩) 1 1) (v := .string ⟨#[(UInt8.ofNat ((p.length) % 256))]⟩) (run_ofBytes (T := 87) (S := 9) (E := 5) (l := [(UInt8.ofNat ((p.length) % 256))]) (by kernel_rfl) (by kernel_rfl) (by kernel_rfl) hb19 rfl (by kernel_rfl)) (k := ?_)
        refine WL.nil ?_
        refine WX.nxt KC ?_
        refine WA.step 10 (hi := rfl) (k := ?_)
        refine WL.callG (d := 27) (f := 60) (args := #[.string ⟨(p ++ ((be 8 e) ++ (be 8 n))).toArray⟩]) (u02Sum_c (l := p ++ ((be 8 e) ++ (be 8 n))) (by show List.length (p ++ ((be 8 e) ++ (be 8 n))) ≤ _; first | omega | (simp; done) | (simp; omega)) w17) (k := fun e_ w25 h_ => ⟨.int .u32 ((crc (p ++ ((be 8 e) ++ (be 8 n))) : Nat) : Int), h_.1, ?_⟩)
        have k26 := h_.2; clear h_
        replace hb4 := k26.heap hb4 id
        replace hb19 := k26.heap hb19 id
        replace K := K.trans (k26.any _)
        replace KC := KC.trans (k26.any _)
        have cl24 := crc_lt (p ++ ((be 8 e) ++ (be 8 n)))
        refine WL.nil ?_
        refine WX.nxt KC ?_
        refine WA.step 11 (hi := rfl) (k := ?_)
        refine WL.callG (d := 28) (f := 59) (args := #[.int .u32 ((crc (p ++ ((be 8 e) ++ (be 8 n))) : Nat) : Int)]) (u02Bytes_c (n := crc (p ++ ((be 8 e) ++ (be 8 n)))) (by omega) w25) (k := fun e_ w27 h_ => ⟨.string ⟨(be 4 (crc (p ++ ((be 8 e) ++ (be 8 n))))).toArray⟩, h_.1, ?_⟩)
        have k28 := h_.2; clear h_
        replace hb4 := k28.heap hb4 id
        replace hb19 := k28.heap hb19 id
        replace K := K.trans (k28.any _)
        replace KC := KC.trans (k28.any _)
        refine WL.nil ?_
        refine WX.nxt KC ?_
        refine WA.quietR 12 (d := 29) (.string ⟨([(UInt8.ofNat ((p.length) % 256))] ++ (be 4 (crc (p ++ ((be 8 e) ++ (be 8 n)))))).toArray⟩) KC (exec_bin (fun _ => cat_run (by (try simp only [List.length_append, List.length_cons, List.length_nil, List.length_replicate, be_len]); omega))) (hi := rfl) (k := ?_)
        refine WA.quietR 15 (d := 32) (.string ⟨([(UInt8.ofNat ((p.length) % 256))] ++ (be 4 (crc (p ++ ((be 8 e) ++ (be 8 n))))) ++ p).toArray⟩) KC (exec_bin (fun _ => cat_run (by (try simp only [List.length_append, List.length_cons, List.length_nil, List.length_replicate, be_len]); omega))) (hi := rfl) (k := ?_)
        refine WA.step 16 (hi := rfl) (k := ?_)
        refine WL.op (d := 5) (.string ⟨([(UInt8.ofNat ((p.length) % 256))] ++ (be 4 (crc (p ++ ((be 8 e) ++ (be 8 n))))) ++ p).toArray⟩) (k := ?_)
        refine WL.nil ?_
        refine WX.nxtL ?_
        refine WA.done (k := ?_)
        clear KC
        refine WX.seqN ?_
        refine WC.seq ?_
        refine WC.block ?_
        refine WC.rw (t := 5) (v := .string ⟨(mk0 p e n ++ List.replicate 0 (0 : UInt8)).toArray⟩) (congrArg (fun l : List UInt8 => Value.string ⟨l.toArray⟩) (show [(UInt8.ofNat ((p.length) % 256))] ++ (be 4 (crc (p ++ ((be 8 e) ++ (be 8 n))))) ++ p = mk0 p e n ++ List.replicate 0 (0 : UInt8) by simp [mk0, tagsS, Nat.mod_eq_of_lt (show p.length < 256 by omega)])) (k := ?_)
        refine WC.rw (t := 4) (v := .string ⟨(tagsS e n).toArray⟩) (congrArg (fun l : List UInt8 => Value.string ⟨l.toArray⟩) rfl) (k := ?_)
        refine WC.loop (ι := Nat) (fun (j : Nat) => [(0, .agg #[.string ⟨(p).toArray⟩, .int .u64 ((e : Nat) : Int), .int .u64 ((n : Nat) : Int)]), (1, .pointer (some ⟨b1, 0, none⟩)), (2, .string ⟨#[]⟩), (3, .int .i64 0), (6, .pointer (some ⟨b1, 0, none⟩)), (7, .string ⟨(p).toArray⟩), (8, .int .i64 (p.length : Int)), (9, .bool (decide ((p.length : Int) > 43))), (10, .pointer (some ⟨b1, 1, none⟩)), (11, .int .u64 ((e : Nat) : Int)), (12, .string ⟨(be 8 e).toArray⟩), (13, .pointer (some ⟨b1, 2, none⟩)), (14, .int .u64 ((n : Nat) : Int)), (15, .string ⟨(be 8 n).toArray⟩), (16, .string ⟨((be 8 e) ++ (be 8 n)).toArray⟩), (4, .string ⟨(tagsS e n).toArray⟩), (17, .pointer (some ⟨b1, 0, none⟩)), (18, .string ⟨(p).toArray⟩), (19, .int .i64 (p.length : Int)), (20, .int .u8 ((UInt8.ofNat ((p.length) % 256)).toNat : Int)), (23, .pointer (some ⟨b1, 0, none⟩)), (24, .string ⟨(p).toArray⟩), (25, .string ⟨((be 8 e) ++ (be 8 n)).toArray⟩), (26, .string ⟨(p ++ ((be 8 e) ++ (be 8 n))).toArray⟩), (30, .pointer (some ⟨b1, 0, none⟩)), (31, .string ⟨(p).toArray⟩), (21, .slice (some ⟨b16, 0, none⟩) 1 1), (22, .string ⟨#[(UInt8.ofNat ((p.length) % 256))]⟩), (27, .int .u32 ((crc (p ++ ((be 8 e) ++ (be 8 n))) : Nat) : Int)), (28, .string ⟨(be 4 (crc (p ++ ((be 8 e) ++ (be 8 n))))).toArray⟩), (29, .string ⟨([(UInt8.ofNat ((p.length) % 256))] ++ (be 4 (crc (p ++ ((be 8 e) ++ (be 8 n)))))).toArray⟩), (32, .string ⟨([(UInt8.ofNat ((p.length) % 256))] ++ (be 4 (crc (p ++ ((be 8 e) ++ (be 8 n))))) ++ p).toArray⟩), (5, .string ⟨(mk0 p e n ++ List.replicate j (0 : UInt8)).toArray⟩)]) (fun (j : Nat) (w_ : World) => (Keeps (fun _ => False) w w_) ∧ (w_.heap[b1]? = some (.cells #[.string ⟨(p).toArray⟩, .int .u64 ((e : Nat) : Int), .int .u64 ((n : Nat) : Int)] 96 (0, 0))) ∧ (w_.heap[b16]? = some (.cells #[.int .u8 ((UInt8.ofNat ((p.length) % 256)).toNat : Int)] 5 (0, 0))) ∧ (j ≤ 43 - p.length)) (fun (j : Nat) => (43 - j)) 0 ⟨(by kernel_rfl), (by kernel_rfl), (by kernel_rfl), (by kernel_rfl), (by kernel_rfl), (by kernel_rfl), (by kernel_rfl), (by kernel_rfl), (by kernel_rfl), (by kernel_rfl), (by kernel_rfl), (by kernel_rfl), (by kernel_rfl), (by kernel_rfl), (by kernel_rfl), (by kernel_rfl), (by kernel_rfl), (by kernel_rfl), (by kernel_rfl), (by kernel_rfl), (by kernel_rfl), (by kernel_rfl), (by kernel_rfl), (by kernel_rfl), (by kernel_rfl), (by kernel_rfl), (by kernel_rfl), (by kernel_rfl), (by kernel_rfl), (by kernel_rfl), (by kernel_rfl), (by kernel_rfl), (by kernel_rfl), trivial⟩ ⟨K, hb4, hb19, (by omega)⟩ ?_
        rintro j w29 ⟨K, hb30, hb31, j1⟩
        have lm_ := mk0_len p e n
        have lj_ : (mk0 p e n ++ List.replicate j (0 : UInt8)).length = 5 + p.length + j := by simp [lm_]
        have lt_ := tagsS_len e n
        refine WC.seq ?_
        refine WC.seq ?_
        refine WC.region ?_
        refine WL.op (d := 33) (.string ⟨(mk0 p e n ++ List.replicate j (0 : UInt8)).toArray⟩) (k := ?_)
        refine WL.op (d := 34) (.int .i64 ((mk0 p e n ++ List.replicate j (0 : UInt8)).length : Int)) (k := ?_)
        refine WL.op (d := 35) (.bool (decide (((mk0 p e n ++ List.replicate j (0 : UInt8)).length : Int) < 48))) (k := ?_)
        refine WL.nil ?_
        refine WX.seqN ?_
        refine WC.cond (b := decide (((mk0 p e n ++ List.replicate j (0 : UInt8)).length : Int) < 48)) (ht := fun h32 => ?_) (hf := fun h32 => ?_)
        · have ph32 := of_decide_eq_true h32
          refine WC.skip ?_
          refine WX.seqN ?_
          refine WC.block ?_
          refine WC.region ?_
          refine WL.op (d := 36) (.string ⟨(mk0 p e n ++ List.replicate j (0 : UInt8)).toArray⟩) (k := ?_)
          refine WL.bin (d := 37) (v := .string ⟨(mk0 p e n ++ List.replicate j (0 : UInt8) ++ [0]).toArray⟩) (cat_run (by (try simp only [List.length_append, List.length_cons, List.length_nil, List.length_replicate, be_len]); omega)) (k := ?_)
          refine WL.op (d := 5) (.string ⟨(mk0 p e n ++ List.replicate j (0 : UInt8) ++ [0]).toArray⟩) (k := ?_)
          refine WL.nil ?_
          refine WX.blockN ?_
          refine WX.rw (t := 5) (v := .string ⟨(mk0 p e n ++ List.replicate (j + 1) (0 : UInt8)).toArray⟩) (congrArg (fun l : List UInt8 => Value.string ⟨l.toArray⟩) (pad_one _ j)) (k := ?_)
          refine WX.round (j + 1) (by show (43 - (j + 1)) < (43 - j); omega) ⟨(by kernel_rfl), (by kernel_rfl), (by kernel_rfl), (by kernel_rfl), (by kernel_rfl), (by kernel_rfl), (by kernel_rfl), (by kernel_rfl), (by kernel_rfl), (by kernel_rfl), (by kernel_rfl), (by kernel_rfl), (by kernel_rfl), (by kernel_rfl), (by kernel_rfl), (by kernel_rfl), (by kernel_rfl), (by kernel_rfl), (by kernel_rfl), (by kernel_rfl), (by kernel_rfl), (by kernel_rfl), (by kernel_rfl), (by kernel_rfl), (by kernel_rfl), (by kernel_rfl), (by kernel_rfl), (by kernel_rfl), (by kernel_rfl), (by kernel_rfl), (by kernel_rfl), (by kernel_rfl), (by kernel_rfl), trivial⟩ ⟨K, hb30, hb31, (by omega)⟩
        · have ph32 := of_decide_eq_false h32
          refine WC.exit ?_
          refine WX.seqE ?_
          refine WX.seqE ?_
          refine WX.blockE ?_
          refine WX.seqN ?_
          refine WC.seq ?_
          refine WC.region ?_
          refine WL.op (d := 38) (.string ⟨(mk0 p e n ++ List.replicate j (0 : UInt8)).toArray⟩) (k := ?_)
          refine WL.op (d := 39) (.string ⟨(tagsS e n).toArray⟩) (k := ?_)
          refine WL.bin (d := 40) (v := .string ⟨(mk0 p e n ++ List.replicate j (0 : UInt8) ++ (tagsS e n)).toArray⟩) (cat_run (by (try simp only [List.length_append, List.length_cons, List.length_nil, List.length_replicate, be_len]); omega)) (k := ?_)
          refine WL.op (d := 2) (.string ⟨(mk0 p e n ++ List.replicate j (0 : UInt8) ++ (tagsS e n)).toArray⟩) (k := ?_)
          refine WL.op (d := 3) (.int .i64 0) (k := ?_)
          refine WL.nil ?_
          refine WX.seqN ?_
          refine WC.ret ?_
          refine WX.ret (rs := [.tmp 2, .tmp 3]) [.string ⟨(mk0 p e n ++ List.replicate j (0 : UInt8) ++ (tagsS e n)).toArray⟩, .int .i64 0] (.tuple #[.string ⟨(mk0 p e n ++ List.replicate j (0 : UInt8) ++ (tagsS e n)).toArray⟩, .int .i64 0]) ⟨(by kernel_rfl), (by kernel_rfl), trivial⟩ (k := ?_)
          exfalso; omega
      · refine WL.callG (d := 27) (f := 60) (args := #[.string ⟨(p ++ ((be 8 e) ++ (be 8 n))).toArray⟩]) (u02Sum_c (l := p ++ ((be 8 e) ++ (be 8 n))) (by show List.length (p ++ ((be 8 e) ++ (be 8 n))) ≤ _; first | omega | (simp; done) | (simp; omega)) w17) (k := fun e_ w34 h_ => ⟨.int .u32 ((crc (p ++ ((be 8 e) ++ (be 8 n))) : Nat) : Int), h_.1, ?_⟩)
        have k35 := h_.2; clear h_
        replace hb4 := k35.heap hb4 id
        replace hb19 := k35.heap hb19 id
        replace K := K.trans (k35.any _)
        replace KC := KC.trans (k35.any _)
        have cl33 := crc_lt (p ++ ((be 8 e) ++ (be 8 n)))
        refine WL.nil ?_
        refine WX.nxt KC ?_
        refine WA.step2 5 11 (hi := rfl) (hj := rfl) (k1 := ?_) (k2 := ?_)
        · refine WL.conv (d := 22) (vx := .slice (some ⟨b16, 0, none⟩) 1 1) (v := .string ⟨#[(UInt8.ofNat ((p.length) % 256))]⟩) (run_ofBytes (T := 87) (S := 9) (E := 5) (l := [(UInt8.ofNat ((p.length) % 256))]) (by kernel_rfl) (by kernel_rfl) (by kernel_rfl) hb19 rfl (by kernel_rfl)) (k := ?_)
          refine WL.nil ?_
          refine WX.nxt KC ?_
          refine WA.step 11 (hi := rfl) (k := ?_)
          refine WL.callG (d := 28) (f := 59) (args := #[.int .u32 ((crc (p ++ ((be 8 e) ++ (be 8 n))) : Nat) : Int)]) (u02Bytes_c (n := crc (p ++ ((be 8 e) ++ (be 8 n)))) (by omega) w34) (k := fun e_ w36 h_ => ⟨.string ⟨(be 4 (crc (p ++ ((be 8 e) ++ (be 8 n))))).toArray⟩, h_.1, ?_⟩)
          have k37 := h_.2; clear h_
          replace hb4 := k37.heap hb4 id
          replace hb19 := k37.heap hb19 id
          replace K := K.trans (k37.any _)
          replace KC := KC.trans (k37.any _)
          refine WL.nil ?_
          refine WX.nxt KC ?_
          refine WA.quietR 12 (d := 29) (.string ⟨([(UInt8.ofNat ((p.length) % 256))] ++ (be 4 (crc (p ++ ((be 8 e) ++ (be 8 n)))))).toArray⟩) KC (exec_bin (fun _ => cat_run (by (try simp only [List.length_append, List.length_cons, List.length_nil, List.length_replicate, be_len]); omega))) (hi := rfl) (k := ?_)
          refine WA.quietR 15 (d := 32) (.string ⟨([(UInt8.ofNat ((p.length) % 256))] ++ (be 4 (crc (p ++ ((be 8 e) ++ (be 8 n))))) ++ p).toArray⟩) KC (exec_bin (fun _ => cat_run (by (try simp only [List.length_append, List.length_cons, List.length_nil, List.length_replicate, be_len]); omega))) (hi := rfl) (k := ?_)
          refine WA.step 16 (hi := rfl) (k := ?_)
          refine WL.op (d := 5) (.string ⟨([(UInt8.ofNat ((p.length) % 256))] ++ (be 4 (crc (p ++ ((be 8 e) ++ (be 8 n))))) ++ p).toArray⟩) (k := ?_)
          refine WL.nil ?_
          refine WX.nxtL ?_
          refine WA.done (k := ?_)
          clear KC
          refine WX.seqN ?_
          refine WC.seq ?_
          refine WC.block ?_
          refine WC.rw (t := 5) (v := .string ⟨(mk0 p e n ++ List.replicate 0 (0 : UInt8)).toArray⟩) (congrArg (fun l : List UInt8 => Value.string ⟨l.toArray⟩) (show [(UInt8.ofNat ((p.length) % 256))] ++ (be 4 (crc (p ++ ((be 8 e) ++ (be 8 n))))) ++ p = mk0 p e n ++ List.replicate 0 (0 : UInt8) by simp [mk0, tagsS, Nat.mod_eq_of_lt (show p.length < 256 by omega)])) (k := ?_)
          refine WC.rw (t := 4) (v := .string ⟨(tagsS e n).toArray⟩) (congrArg (fun l : List UInt8 => Value.string ⟨l.toArray⟩) rfl) (k := ?_)
          refine WC.loop (ι := Nat) (fun (j : Nat) => [(0, .agg #[.string ⟨(p).toArray⟩, .int .u64 ((e : Nat) : Int), .int .u64 ((n : Nat) : Int)]), (1, .pointer (some ⟨b1, 0, none⟩)), (2, .string ⟨#[]⟩), (3, .int .i64 0), (6, .pointer (some ⟨b1, 0, none⟩)), (7, .string ⟨(p).toArray⟩), (8, .int .i64 (p.length : Int)), (9, .bool (decide ((p.length : Int) > 43))), (10, .pointer (some ⟨b1, 1, none⟩)), (11, .int .u64 ((e : Nat) : Int)), (12, .string ⟨(be 8 e).toArray⟩), (13, .pointer (some ⟨b1, 2, none⟩)), (14, .int .u64 ((n : Nat) : Int)), (15, .string ⟨(be 8 n).toArray⟩), (16, .string ⟨((be 8 e) ++ (be 8 n)).toArray⟩), (4, .string ⟨(tagsS e n).toArray⟩), (17, .pointer (some ⟨b1, 0, none⟩)), (18, .string ⟨(p).toArray⟩), (19, .int .i64 (p.length : Int)), (20, .int .u8 ((UInt8.ofNat ((p.length) % 256)).toNat : Int)), (23, .pointer (some ⟨b1, 0, none⟩)), (24, .string ⟨(p).toArray⟩), (25, .string ⟨((be 8 e) ++ (be 8 n)).toArray⟩), (26, .string ⟨(p ++ ((be 8 e) ++ (be 8 n))).toArray⟩), (30, .pointer (some ⟨b1, 0, none⟩)), (31, .string ⟨(p).toArray⟩), (21, .slice (some ⟨b16, 0, none⟩) 1 1), (27, .int .u32 ((crc (p ++ ((be 8 e) ++ (be 8 n))) : Nat) : Int)), (22, .string ⟨#[(UInt8.ofNat ((p.length) % 256))]⟩), (28, .string ⟨(be 4 (crc (p ++ ((be 8 e) ++ (be 8 n))))).toArray⟩), (29, .string ⟨([(UInt8.ofNat ((p.length) % 256))] ++ (be 4 (crc (p ++ ((be 8 e) ++ (be 8 n)))))).toArray⟩), (32, .string ⟨([(UInt8.ofNat ((p.length) % 256))] ++ (be 4 (crc (p ++ ((be 8 e) ++ (be 8 n))))) ++ p).toArray⟩), (5, .string ⟨(mk0 p e n ++ List.replicate j (0 : UInt8)).toArray⟩)]) (fun (j : Nat) (w_ : World) => (Keeps (fun _ => False) w w_) ∧ (w_.heap[b1]? = some (.cells #[.string ⟨(p).toArray⟩, .int .u64 ((e : Nat) : Int), .int .u64 ((n : Nat) : Int)] 96 (0, 0))) ∧ (w_.heap[b16]? = some (.cells #[.int .u8 ((UInt8.ofNat ((p.length) % 256)).toNat : Int)] 5 (0, 0))) ∧ (j ≤ 43 - p.length)) (fun (j : Nat) => (43 - j)) 0 ⟨(by kernel_rfl), (by kernel_rfl), (by kernel_rfl), (by kernel_rfl), (by kernel_rfl), (by kernel_rfl), (by kernel_rfl), (by kernel_rfl), (by kernel_rfl), (by kernel_rfl), (by kernel_rfl), (by kernel_rfl), (by kernel_rfl), (by kernel_rfl), (by kernel_rfl), (by kernel_rfl), (by kernel_rfl), (by kernel_rfl), (by kernel_rfl), (by kernel_rfl), (by kernel_rfl), (by kernel_rfl), (by kernel_rfl), (by kernel_rfl), (by kernel_rfl), (by kernel_rfl), (by kernel_rfl), (by kernel_rfl), (by kernel_rfl), (by kernel_rfl), (by kernel_rfl), (by kernel_rfl), (by kernel_rfl), trivial⟩ ⟨K, hb4, hb19, (by omega)⟩ ?_
          rintro j w38 ⟨K, hb39, hb40, j1⟩
          have lm_ := mk0_len p e n
          have lj_ : (mk0 p e n ++ List.replicate j (0 : UInt8)).length = 5 + p.length + j := by simp [lm_]
          have lt_ := tagsS_len e n
          refine WC.seq ?_
          refine WC.seq ?_
          refine WC.region ?_
          refine WL.op (d := 33) (.string ⟨(mk0 p e n ++ List.replicate j (0 : UInt8)).toArray⟩) (k := ?_)
          refine WL.op (d := 34) (.int .i64 ((mk0 p e n ++ List.replicate j (0 : UInt8)).length : Int)) (k := ?_)
          refine WL.op (d := 35) (.bool (decide (((mk0 p e n ++ List.replicate j (0 : UInt8)).length : Int) < 48))) (k := ?_)
          refine WL.nil ?_
          refine WX.seqN ?_
          refine WC.cond (b := decide (((mk0 p e n ++ List.replicate j (0 : UInt8)).length : Int) < 48)) (ht := fun h41 => ?_) (hf := fun h41 => ?_)
          · have ph41 := of_decide_eq_true h41
            refine WC.skip ?_
            refine WX.seqN ?_
            refine WC.block ?_
            refine WC.region ?_
            refine WL.op (d := 36) (.string ⟨(mk0 p e n ++ List.replicate j (0 : UInt8)).toArray⟩) (k := ?_)
            refine WL.bin (d := 37) (v := .string ⟨(mk0 p e n ++ List.replicate j (0 : UInt8) ++ [0]).toArray⟩) (cat_run (by (try simp only [List.length_append, List.length_cons, List.length_nil, List.length_replicate, be_len]); omega)) (k := ?_)
            refine WL.op (d := 5) (.string ⟨(mk0 p e n ++ List.replicate j (0 : UInt8) ++ [0]).toArray⟩) (k := ?_)
            refine WL.nil ?_
            refine WX.blockN ?_
            refine WX.rw (t := 5) (v := .string ⟨(mk0 p e n ++ List.replicate (j + 1) (0 : UInt8)).toArray⟩) (congrArg (fun l : List UInt8 => Value.string ⟨l.toArray⟩) (pad_one _ j)) (k := ?_)
            refine WX.round (j + 1) (by show (43 - (j + 1)) < (43 - j); omega) ⟨(by kernel_rfl), (by kernel_rfl), (by kernel_rfl), (by kernel_rfl), (by kernel_rfl), (by kernel_rfl), (by kernel_rfl), (by kernel_rfl), (by kernel_rfl), (by kernel_rfl), (by kernel_rfl), (by kernel_rfl), (by kernel_rfl), (by kernel_rfl), (by kernel_rfl), (by kernel_rfl), (by kernel_rfl), (by kernel_rfl), (by kernel_rfl), (by kernel_rfl), (by kernel_rfl), (by kernel_rfl), (by kernel_rfl), (by kernel_rfl), (by kernel_rfl), (by kernel_rfl), (by kernel_rfl), (by kernel_rfl), (by kernel_rfl), (by kernel_rfl), (by kernel_rfl), (by kernel_rfl), (by kernel_rfl), trivial⟩ ⟨K, hb39, hb40, (by omega)⟩
          · have ph41 := of_decide_eq_false h41
            refine WC.exit ?_
            refine WX.seqE ?_
            refine WX.seqE ?_
            refine WX.blockE ?_
            refine WX.seqN ?_
            refine WC.seq ?_
            refine WC.region ?_
            refine WL.op (d := 38) (.string ⟨(mk0 p e n ++ List.replicate j (0 : UInt8)).toArray⟩) (k := ?_)
            refine WL.op (d := 39) (.string ⟨(tagsS e n).toArray⟩) (k := ?_)
            refine WL.bin (d := 40) (v := .string ⟨(mk0 p e n ++ List.replicate j (0 : UInt8) ++ (tagsS e n)).toArray⟩) (cat_run (by (try simp only [List.length_append, List.length_cons, List.length_nil, List.length_replicate, be_len]); omega)) (k := ?_)
            refine WL.op (d := 2) (.string ⟨(mk0 p e n ++ List.replicate j (0 : UInt8) ++ (tagsS e n)).toArray⟩) (k := ?_)
            refine WL.op (d := 3) (.int .i64 0) (k := ?_)
            refine WL.nil ?_
            refine WX.seqN ?_
            refine WC.ret ?_
            refine WX.ret (rs := [.tmp 2, .tmp 3]) [.string ⟨(mk0 p e n ++ List.replicate j (0 : UInt8) ++ (tagsS e n)).toArray⟩, .int .i64 0] (.tuple #[.string ⟨(mk0 p e n ++ List.replicate j (0 : UInt8) ++ (tagsS e n)).toArray⟩, .int .i64 0]) ⟨(by kernel_rfl), (by kernel_rfl), trivial⟩ (k := ?_)
            exfalso; omega
        · refine WL.callG (d := 28) (f := 59) (args := #[.int .u32 ((crc (p ++ ((be 8 e) ++ (be 8 n))) : Nat) : Int)]) (u02Bytes_c (n := crc (p ++ ((be 8 e) ++ (be 8 n)))) (by omega) w34) (k := fun e_ w42 h_ => ⟨.string ⟨(be 4 (crc (p ++ ((be 8 e) ++ (be 8 n))))).toArray⟩, h_.1, ?_⟩)
          have k43 := h_.2; clear h_
          replace hb4 := k43.heap hb4 id
          replace hb19 := k43.heap hb19 id
          replace K := K.trans (k43.any _)
          replace KC := KC.trans (k43.any _)
          refine WL.nil ?_
          refine WX.nxt KC ?_
          refine WA.step 5 (hi := rfl) (k := ?_)
          refine WL.conv (d := 22) (vx := .slice (some ⟨b16, 0, none⟩) 1 1) (v := .string ⟨#[(UInt8.ofNat ((p.length) % 256))]⟩) (run_ofBytes (T := 87) (S := 9) (E := 5) (l := [(UInt8.ofNat ((p.length) % 256))]) (by kernel_rfl) (by kernel_rfl) (by kernel_rfl) hb19 rfl (by kernel_rfl)) (k := ?_)
          refine WL.nil ?_
          refine WX.nxt KC ?_
          refine WA.quietR 12 (d := 29) (.string ⟨([(UInt8.ofNat ((p.length) % 256))] ++ (be 4 (crc (p ++ ((be 8 e) ++ (be 8 n)))))).toArray⟩) KC (exec_bin (fun _ => cat_run (by (try simp only [List.length_append, List.length_cons, List.length_nil, List.length_replicate, be_len]); omega))) (hi := rfl) (k := ?_)
          refine WA.quietR 15 (d := 32) (.string ⟨([(UInt8.ofNat ((p.length) % 256))] ++ (be 4 (crc (p ++ ((be 8 e) ++ (be 8 n))))) ++ p).toArray⟩) KC (exec_bin (fun _ => cat_run (by (try simp only [List.length_append, List.length_cons, List.length_nil, List.length_replicate, be_len]); omega))) (hi := rfl) (k := ?_)
          refine WA.step 16 (hi := rfl) (k := ?_)
          refine WL.op (d := 5) (.string ⟨([(UInt8.ofNat ((p.length) % 256))] ++ (be 4 (crc (p ++ ((be 8 e) ++ (be 8 n))))) ++ p).toArray⟩) (k := ?_)
          refine WL.nil ?_
          refine WX.nxtL ?_
          refine WA.done (k := ?_)
          clear KC
          refine WX.seqN ?_
          refine WC.seq ?_
          refine WC.block ?_
          refine WC.rw (t := 5) (v := .string ⟨(mk0 p e n ++ List.replicate 0 (0 : UInt8)).toArray⟩) (congrArg (fun l : List UInt8 => Value.string ⟨l.toArray⟩) (show [(UInt8.ofNat ((p.length) % 256))] ++ (be 4 (crc (p ++ ((be 8 e) ++ (be 8 n))))) ++ p = mk0 p e n ++ List.replicate 0 (0 : UInt8) by simp [mk0, tagsS, Nat.mod_eq_of_lt (show p.length < 256 by omega)])) (k := ?_)
          refine WC.rw (t := 4) (v := .string ⟨(tagsS e n).toArray⟩) (congrArg (fun l : List UInt8 => Value.string ⟨l.toArray⟩) rfl) (k := ?_)
          refine WC.loop (ι := Nat) (fun (j : Nat) => [(0, .agg #[.string ⟨(p).toArray⟩, .int .u64 ((e : Nat) : Int), .int .u64 ((n : Nat) : Int)]), (1, .pointer (some ⟨b1, 0, none⟩)), (2, .string ⟨#[]⟩), (3, .int .i64 0), (6, .pointer (some ⟨b1, 0, none⟩)), (7, .string ⟨(p).toArray⟩), (8, .int .i64 (p.length : Int)), (9, .bool (decide ((p.length : Int) > 43))), (10, .pointer (some ⟨b1, 1, none⟩)), (11, .int .u64 ((e : Nat) : Int)), (12, .string ⟨(be 8 e).toArray⟩), (13, .pointer (some ⟨b1, 2, none⟩)), (14, .int .u64 ((n : Nat) : Int)), (15, .string ⟨(be 8 n).toArray⟩), (16, .string ⟨((be 8 e) ++ (be 8 n)).toArray⟩), (4, .string ⟨(tagsS e n).toArray⟩), (17, .pointer (some ⟨b1, 0, none⟩)), (18, .string ⟨(p).toArray⟩), (19, .int .i64 (p.length : Int)), (20, .int .u8 ((UInt8.ofNat ((p.length) % 256)).toNat : Int)), (23, .pointer (some ⟨b1, 0, none⟩)), (24, .string ⟨(p).toArray⟩), (25, .string ⟨((be 8 e) ++ (be 8 n)).toArray⟩), (26, .string ⟨(p ++ ((be 8 e) ++ (be 8 n))).toArray⟩), (30, .pointer (some ⟨b1, 0, none⟩)), (31, .string ⟨(p).toArray⟩), (21, .slice (some ⟨b16, 0, none⟩) 1 1), (27, .int .u32 ((crc (p ++ ((be 8 e) ++ (be 8 n))) : Nat) : Int)), (28, .string ⟨(be 4 (crc (p ++ ((be 8 e) ++ (be 8 n))))).toArray⟩), (22, .string ⟨#[(UInt8.ofNat ((p.length) % 256))]⟩), (29, .string ⟨([(UInt8.ofNat ((p.length) % 256))] ++ (be 4 (crc (p ++ ((be 8 e) ++ (be 8 n)))))).toArray⟩), (32, .string ⟨([(UInt8.ofNat ((p.length) % 256))] ++ (be 4 (crc (p ++ ((be 8 e) ++ (be 8 n))))) ++ p).toArray⟩), (5, .string ⟨(mk0 p e n ++ List.replicate j (0 : UInt8)).toArray⟩)]) (fun (j : Nat) (w_ : World) => (Keeps (fun _ => False) w w_) ∧ (w_.heap[b1]? = some (.cells #[.string ⟨(p).toArray⟩, .int .u64 ((e : Nat) : Int), .int .u64 ((n : Nat) : Int)] 96 (0, 0))) ∧ (w_.heap[b16]? = some (.cells #[.int .u8 ((UInt8.ofNat ((p.length) % 256)).toNat : Int)] 5 (0, 0))) ∧ (j ≤ 43 - p.length)) (fun (j : Nat) => (43 - j)) 0 ⟨(by kernel_rfl), (by kernel_rfl), (by kernel_rfl), (by kernel_rfl), (by kernel_rfl), (by kernel_rfl), (by kernel_rfl), (by kernel_rfl), (by kernel_rfl), (by kernel_rfl), (by kernel_rfl), (by kernel_rfl), (by kernel_rfl), (by kernel_rfl), (by kernel_rfl), (by kernel_rfl), (by kernel_rfl), (by kernel_rfl), (by kernel_rfl), (by kernel_rfl), (by kernel_rfl), (by kernel_rfl), (by kernel_rfl), (by kernel_rfl), (by kernel_rfl), (by kernel_rfl), (by kernel_rfl), (by kernel_rfl), (by kernel_rfl), (by kernel_rfl), (by kernel_rfl), (by kernel_rfl), (by kernel_rfl), trivial⟩ ⟨K, hb4, hb19, (by omega)⟩ ?_
          rintro j w44 ⟨K, hb45, hb46, j1⟩
          have lm_ := mk0_len p e n
          have lj_ : (mk0 p e n ++ List.replicate j (0 : UInt8)).length = 5 + p.length + j := by simp [lm_]
          have lt_ := tagsS_len e n
          refine WC.seq ?_
          refine WC.seq ?_
          refine WC.region ?_
          refine WL.op (d := 33) (.string ⟨(mk0 p e n ++ List.replicate j (0 : UInt8)).toArray⟩) (k := ?_)
          refine WL.op (d := 34) (.int .i64 ((mk0 p e n ++ List.replicate j (0 : UInt8)).length : Int)) (k := ?_)
          refine WL.op (d := 35) (.bool (decide (((mk0 p e n ++ List.replicate j (0 : UInt8)).length : Int) < 48))) (k := ?_)
          refine WL.nil ?_
          refine WX.seqN ?_
          refine WC.cond (b := decide (((mk0 p e n ++ List.replicate j (0 : UInt8)).length : Int) < 48)) (ht := fun h47 => ?_) (hf := fun h47 => ?_)
          · have ph47 := of_decide_eq_true h47
            refine WC.skip ?_
            refine WX.seqN ?_
            refine WC.block ?_
            refine WC.region ?_
            refine WL.op (d := 36) (.string ⟨(mk0 p e n ++ List.replicate j (0 : UInt8)).toArray⟩) (k := ?_)
            refine WL.bin (d := 37) (v := .string ⟨(mk0 p e n ++ List.replicate j (0 : UInt8) ++ [0]).toArray⟩) (cat_run (by (try simp only [List.length_append, List.length_cons, List.length_nil, List.length_replicate, be_len]); omega)) (k := ?_)
            refine WL.op (d := 5) (.string ⟨(mk0 p e n ++ List.replicate j (0 : UInt8) ++ [0]).toArray⟩) (k := ?_)
            refine WL.nil ?_
            refine WX.blockN ?_
            refine WX.rw (t := 5) (v := .string ⟨(mk0 p e n ++ List.replicate (j + 1) (0 : UInt8)).toArray⟩) (congrArg (fun l : List UInt8 => Value.string ⟨l.toArray⟩) (pad_one _ j)) (k := ?_)
            refine WX.round (j + 1) (by show (43 - (j + 1)) < (43 - j); omega) ⟨(by kernel_rfl), (by kernel_rfl), (by kernel_rfl), (by kernel_rfl), (by kernel_rfl), (by kernel_rfl), (by kernel_rfl), (by kernel_rfl), (by kernel_rfl), (by kernel_rfl), (by kernel_rfl), (by kernel_rfl), (by kernel_rfl), (by kernel_rfl), (by kernel_rfl), (by kernel_rfl), (by kernel_rfl), (by kernel_rfl), (by kernel_rfl), (by kernel_rfl), (by kernel_rfl), (by kernel_rfl), (by kernel_rfl), (by kernel_rfl), (by kernel_rfl), (by kernel_rfl), (by kernel_rfl), (by kernel_rfl), (by kernel_rfl), (by kernel_rfl), (by kernel_rfl), (by kernel_rfl), (by kernel_rfl), trivial⟩ ⟨K, hb45, hb46, (by omega)⟩
          · have ph47 := of_decide_eq_false h47
            refine WC.exit ?_
            refine WX.seqE ?_
            refine WX.seqE ?_
            refine WX.blockE ?_
            refine WX.seqN ?_
            refine WC.seq ?_
            refine WC.region ?_
            refine WL.op (d := 38) (.string ⟨(mk0 p e n ++ List.replicate j (0 : UInt8)).toArray⟩) (k := ?_)
            refine WL.op (d := 39) (.string ⟨(tagsS e n).toArray⟩) (k := ?_)
            refine WL.bin (d := 40) (v := .string ⟨(mk0 p e n ++ List.replicate j (0 : UInt8) ++ (tagsS e n)).toArray⟩) (cat_run (by (try simp only [List.length_append, List.length_cons, List.length_nil, List.length_replicate, be_len]); omega)) (k := ?_)
            refine WL.op (d := 2) (.string ⟨(mk0 p e n ++ List.replicate j (0 : UInt8) ++ (tagsS e n)).toArray⟩) (k := ?_)
            refine WL.op (d := 3) (.int .i64 0) (k := ?_)
            refine WL.nil ?_
            refine WX.seqN ?_
            refine WC.ret ?_
            refine WX.ret (rs := [.tmp 2, .tmp 3]) [.string ⟨(mk0 p e n ++ List.replicate j (0 : UInt8) ++ (tagsS e n)).toArray⟩, .int .i64 0] (.tuple #[.string ⟨(mk0 p e n ++ List.replicate j (0 : UInt8) ++ (tagsS e n)).toArray⟩, .int .i64 0]) ⟨(by kernel_rfl), (by kernel_rfl), trivial⟩ (k := ?_)
            exfalso; omega
    · refine WL.callG (d := 27) (f := 60) (args := #[.string ⟨(p ++ ((be 8 e) ++ (be 8 n))).toArray⟩]) (u02Sum_c (l := p ++ ((be 8 e) ++ (be 8 n))) (by show List.length (p ++ ((be 8 e) ++ (be 8 n))) ≤ _; first | omega | (simp; done) | (simp; omega)) w12) (k := fun e_ w49 h_ => ⟨.int .u32 ((crc (p ++ ((be 8 e) ++ (be 8 n))) : Nat) : Int), h_.1, ?_⟩)
      have k50 := h_.2; clear h_
      replace hb4 := k50.heap hb4 id
      replace K := K.trans (k50.any _)
      replace KC := KC.trans (k50.any _)
      have cl48 := crc_lt (p ++ ((be 8 e) ++ (be 8 n)))
      refine WL.nil ?_
      refine WX.nxt KC ?_
      refine WA.step2 4 11 (hi := rfl) (hj := rfl) (k1 := ?_) (k2 := ?_)
      · refine WL.newF (d := 21) (T := 5) #[.int .u8 ((UInt8.ofNat ((p.length) % 256)).toNat : Int)] (fun b => .slice (some ⟨b, 0, none⟩) 1 1) (k := fun b51 w52 g53 hb54 k55 => ?_)
        have z56 := Nat.le_trans K.size g53
        have zc57 := Nat.le_trans KC.size g53
        have n58 : b1 ≠ b51 := Nat.ne_of_lt (Nat.lt_of_lt_of_le (lt_of_heap hb4) g53)
        replace hb4 := k55.heap hb4 id
        replace K := K.trans (k55.any _)
        replace KC := KC.trans (k55.any _)
        refine WL.nil ?_
        refine WX.nxt KC ?_
        refine WA.step2 5 11 (hi := rfl) (hj := rfl) (k1 := ?_) (k2 := ?_)
        · refine WL.conv (d := 22) (vx := .slice (some ⟨b51, 0, none⟩) 1 1) (v := .string ⟨#[(UInt8.ofNat ((p.length) % 256))]⟩) (run_ofBytes (T := 87) (S := 9) (E := 5) (l := [(UInt8.ofNat ((p.length) % 256))]) (by kernel_rfl) (by kernel_rfl) (by kernel_rfl) hb54 rfl (by kernel_rfl)) (k := ?_)
          refine WL.nil ?_
          refine WX.nxt KC ?_
          refine WA.step 11 (hi := rfl) (k := ?_)
          refine WL.callG (d := 28) (f := 59) (args := #[.int .u32 ((crc (p ++ ((be 8 e) ++ (be 8 n))) : Nat) : Int)]) (u02Bytes_c (n := crc (p ++ ((be 8 e) ++ (be 8 n)))) (by omega) w52) (k := fun e_ w59 h_ => ⟨.string ⟨(be 4 (crc (p ++ ((be 8 e) ++ (be 8 n))))).toArray⟩, h_.1, ?_⟩)
          have k60 := h_.2; clear h_
          replace hb4 := k60.heap hb4 id
          replace hb54 := k60.heap hb54 id
          replace K := K.trans (k60.any _)
          replace KC := KC.trans (k60.any _)
          refine WL.nil ?_
          refine WX.nxt KC ?_
          refine WA.quietR 12 (d := 29) (.string ⟨([(UInt8.ofNat ((p.length) % 256))] ++ (be 4 (crc (p ++ ((be 8 e) ++ (be 8 n)))))).toArray⟩) KC (exec_bin (fun _ => cat_run (by (try simp only [List.length_append, List.length_cons, List.length_nil, List.length_replicate, be_len]); omega))) (hi := rfl) (k := ?_)
          refine WA.quietR 15 (d := 32) (.string ⟨([(UInt8.ofNat ((p.length) % 256))] ++ (be 4 (crc (p ++ ((be 8 e) ++ (be 8 n))))) ++ p).toArray⟩) KC (exec_bin (fun _ => cat_run (by (try simp only [List.length_append, List.length_cons, List.length_nil, List.length_replicate, be_len]); omega))) (hi := rfl) (k := ?_)
          refine WA.step 16 (hi := rfl) (k := ?_)
          refine WL.op (d := 5) (.string ⟨([(UInt8.ofNat ((p.length) % 256))] ++ (be 4 (crc (p ++ ((be 8 e) ++ (be 8 n))))) ++ p).toArray⟩) (k := ?_)
          refine WL.nil ?_
          refine WX.nxtL ?_
          refine WA.done (k := ?_)
          clear KC
          refine WX.seqN ?_
          refine WC.seq ?_
          refine WC.block ?_
          refine WC.rw (t := 5) (v := .string ⟨(mk0 p e n ++ List.replicate 0 (0 : UInt8)).toArray⟩) (congrArg (fun l : List UInt8 => Value.string ⟨l.toArray⟩) (show [(UInt8.ofNat ((p.length) % 256))] ++ (be 4 (crc (p ++ ((be 8 e) ++ (be 8 n))))) ++ p = mk0 p e n ++ List.replicate 0 (0 : UInt8) by simp [mk0, tagsS, Nat.mod_eq_of_lt (show p.length < 256 by omega)])) (k := ?_)
          refine WC.rw (t := 4) (v := .string ⟨(tagsS e n).toArray⟩) (congrArg (fun l : List UInt8 => Value.string ⟨l.toArray⟩) rfl) (k := ?_)
          refine WC.loop (ι := Nat) (fun (j : Nat) => [(0, .agg #[.string ⟨(p).toArray⟩, .int .u64 ((e : Nat) : Int), .int .u64 ((n : Nat) : Int)]), (1, .pointer (some ⟨b1, 0, none⟩)), (2, .string ⟨#[]⟩), (3, .int .i64 0), (6, .pointer (some ⟨b1, 0, none⟩)), (7, .string ⟨(p).toArray⟩), (8, .int .i64 (p.length : Int)), (9, .bool (decide ((p.length : Int) > 43))), (10, .pointer (some ⟨b1, 1, none⟩)), (11, .int .u64 ((e : Nat) : Int)), (12, .string ⟨(be 8 e).toArray⟩), (13, .pointer (some ⟨b1, 2, none⟩)), (14, .int .u64 ((n : Nat) : Int)), (15, .string ⟨(be 8 n).toArray⟩), (16, .string ⟨((be 8 e) ++ (be 8 n)).toArray⟩), (4, .string ⟨(tagsS e n).toArray⟩), (17, .pointer (some ⟨b1, 0, none⟩)), (18, .string ⟨(p).toArray⟩), (19, .int .i64 (p.length : Int)), (20, .int .u8 ((UInt8.ofNat ((p.length) % 256)).toNat : Int)), (23, .pointer (some ⟨b1, 0, none⟩)), (24, .string ⟨(p).toArray⟩), (25, .string ⟨((be 8 e) ++ (be 8 n)).toArray⟩), (26, .string ⟨(p ++ ((be 8 e) ++ (be 8 n))).toArray⟩), (30, .pointer (some ⟨b1, 0, none⟩)), (31, .string ⟨(p).toArray⟩), (27, .int .u32 ((crc (p ++ ((be 8 e) ++ (be 8 n))) : Nat) : Int)), (21, .slice (some ⟨b51, 0, none⟩) 1 1), (22, .string ⟨#[(UInt8.ofNat ((p.length) % 256))]⟩), (28, .string ⟨(be 4 (crc (p ++ ((be 8 e) ++ (be 8 n))))).toArray⟩), (29, .string ⟨([(UInt8.ofNat ((p.length) % 256))] ++ (be 4 (crc (p ++ ((be 8 e) ++ (be 8 n)))))).toArray⟩), (32, .string ⟨([(UInt8.ofNat ((p.length) % 256))] ++ (be 4 (crc (p ++ ((be 8 e) ++ (be 8 n))))) ++ p).toArray⟩), (5, .string ⟨(mk0 p e n ++ List.replicate j (0 : UInt8)).toArray⟩)]) (fun (j : Nat) (w_ : World) => (Keeps (fun _ => False) w w_) ∧ (w_.heap[b1]? = some (.cells #[.string ⟨(p).toArray⟩, .int .u64 ((e : Nat) : Int), .int .u64 ((n : Nat) : Int)] 96 (0, 0))) ∧ (w_.heap[b51]? = some (.cells #[.int .u8 ((UInt8.ofNat ((p.length) % 256)).toNat : Int)] 5 (0, 0))) ∧ (j ≤ 43 - p.length)) (fun (j : Nat) => (43 - j)) 0 ⟨(by kernel_rfl), (by kernel_rfl), (by kernel_rfl), (by kernel_rfl), (by kernel_rfl), (by kernel_rfl), (by kernel_rfl), (by kernel_rfl), (by kernel_rfl), (by kernel_rfl), (by kernel_rfl), (by kernel_rfl), (by kernel_rfl), (by kernel_rfl), (by kernel_rfl), (by kernel_rfl), (by kernel_rfl), (by kernel_rfl), (by kernel_rfl), (by kernel_rfl), (by kernel_rfl), (by kernel_rfl), (by kernel_rfl), (by kernel_rfl), (by kernel_rfl), (by kernel_rfl), (by kernel_rfl), (by kernel_rfl), (by kernel_rfl), (by kernel_rfl), (by kernel_rfl), (by kernel_rfl), (by kernel_rfl), trivial⟩ ⟨K, hb4, hb54, (by omega)⟩ ?_
          rintro j w61 ⟨K, hb62, hb63, j1⟩
          have lm_ := mk0_len p e n
          have lj_ : (mk0 p e n ++ List.replicate j (0 : UInt8)).length = 5 + p.length + j := by simp [lm_]
          have lt_ := tagsS_len e n
          refine WC.seq ?_
          refine WC.seq ?_
          refine WC.region ?_
          refine WL.op (d := 33) (.string ⟨(mk0 p e n ++ List.replicate j (0 : UInt8)).toArray⟩) (k := ?_)
          refine WL.op (d := 34) (.int .i64 ((mk0 p e n ++ List.replicate j (0 : UInt8)).length : Int)) (k := ?_)
          refine WL.op (d := 35) (.bool (decide (((mk0 p e n ++ List.replicate j (0 : UInt8)).length : Int) < 48))) (k := ?_)
          refine WL.nil ?_
          refine WX.seqN ?_
          refine WC.cond (b := decide (((mk0 p e n ++ List.replicate j (0 : UInt8)).length : Int) < 48)) (ht := fun h64 => ?_) (hf := fun h64 => ?_)
          · have ph64 := of_decide_eq_true h64
            refine WC.skip ?_
            refine WX.seqN ?_
            refine WC.block ?_
            refine WC.region ?_
            refine WL.op (d := 36) (.string ⟨(mk0 p e n ++ List.replicate j (0 : UInt8)).toArray⟩) (k := ?_)
            refine WL.bin (d := 37) (v := .string ⟨(mk0 p e n ++ List.replicate j (0 : UInt8) ++ [0]).toArray⟩) (cat_run (by (try simp only [List.length_append, List.length_cons, List.length_nil, List.length_replicate, be_len]); omega)) (k := ?_)
            refine WL.op (d := 5) (.string ⟨(mk0 p e n ++ List.replicate j (0 : UInt8) ++ [0]).toArray⟩) (k := ?_)
            refine WL.nil ?_
            refine WX.blockN ?_
            refine WX.rw (t := 5) (v := .string ⟨(mk0 p e n ++ List.replicate (j + 1) (0 : UInt8)).toArray⟩) (congrArg (fun l : List UInt8 => Value.string ⟨l.toArray⟩) (pad_one _ j)) (k := ?_)
            refine WX.round (j + 1) (by show (43 - (j + 1)) < (43 - j); omega) ⟨(by kernel_rfl), (by kernel_rfl), (by kernel_rfl), (by kernel_rfl), (by kernel_rfl), (by kernel_rfl), (by kernel_rfl), (by kernel_rfl), (by kernel_rfl), (by kernel_rfl), (by kernel_rfl), (by kernel_rfl), (by kernel_rfl), (by kernel_rfl), (by kernel_rfl), (by kernel_rfl), (by kernel_rfl), (by kernel_rfl), (by kernel_rfl), (by kernel_rfl), (by kernel_rfl), (by kernel_rfl), (by kernel_rfl), (by kernel_rfl), (by kernel_rfl), (by kernel_rfl), (by kernel_rfl), (by kernel_rfl), (by kernel_rfl), (by kernel_rfl), (by kernel_rfl), (by kernel_rfl), (by kernel_rfl), trivial⟩ ⟨K, hb62, hb63, (by omega)⟩
          · have ph64 := of_decide_eq_false h64
            refine WC.exit ?_
            refine WX.seqE ?_
            refine WX.seqE ?_
            refine WX.blockE ?_
            refine WX.seqN ?_
            refine WC.seq ?_
            refine WC.region ?_
            refine WL.op (d := 38) (.string ⟨(mk0 p e n ++ List.replicate j (0 : UInt8)).toArray⟩) (k := ?_)
            refine WL.op (d := 39) (.string ⟨(tagsS e n).toArray⟩) (k := ?_)
            refine WL.bin (d := 40) (v := .string ⟨(mk0 p e n ++ List.replicate j (0 : UInt8) ++ (tagsS e n)).toArray⟩) (cat_run (by (try simp only [List.length_append, List.length_cons, List.length_nil, List.length_replicate, be_len]); omega)) (k := ?_)
            refine WL.op (d := 2) (.string ⟨(mk0 p e n ++ List.replicate j (0 : UInt8) ++ (tagsS e n)).toArray⟩) (k := ?_)
            refine WL.op (d := 3) (.int .i64 0) (k := ?_)
            refine WL.nil ?_
            refine WX.seqN ?_
            refine WC.ret ?_
            refine WX.ret (rs := [.tmp 2, .tmp 3]) [.string ⟨(mk0 p e n ++ List.replicate j (0 : UInt8) ++ (tagsS e n)).toArray⟩, .int .i64 0] (.tuple #[.string ⟨(mk0 p e n ++ List.replicate j (0 : UInt8) ++ (tagsS e n)).toArray⟩, .int .i64 0]) ⟨(by kernel_rfl), (by kernel_rfl), trivial⟩ (k := ?_)
            exfalso; omega
        · refine WL.callG (d := 28) (f := 59) (args := #[.int .u32 ((crc (p ++ ((be 8 e) ++ (be 8 n))) : Nat) : Int)]) (u02Bytes_c (n := crc (p ++ ((be 8 e) ++ (be 8 n)))) (by omega) w52) (k := fun e_ w65 h_ => ⟨.string ⟨(be 4 (crc (p ++ ((be 8 e) ++ (be 8 n))))).toArray⟩, h_.1, ?_⟩)
          have k66 := h_.2; clear h_
          replace hb4 := k66.heap hb4 id
          replace hb54 := k66.heap hb54 id
          replace K := K.trans (k66.any _)
          replace KC := KC.trans (k66.any _)
          refine WL.nil ?_
          refine WX.nxt KC ?_
          refine WA.step 5 (hi := rfl) (k := ?_)
          refine WL.conv (d := 22) (vx := .slice (some ⟨b51, 0, none⟩) 1 1) (v := .string ⟨#[(UInt8.ofNat ((p.length) % 256))]⟩) (run_ofBytes (T := 87) (S := 9) (E := 5) (l := [(UInt8.ofNat ((p.length) % 256))]) (by kernel_rfl) (by kernel_rfl) (by kernel_rfl) hb54 rfl (by kernel_rfl)) (k := ?_)
          refine WL.nil ?_
          refine WX.nxt KC ?_
          refine WA.quietR 12 (d := 29) (.string ⟨([(UInt8.ofNat ((p.length) % 256))] ++ (be 4 (crc (p ++ ((be 8 e) ++ (be 8 n)))))).toArray⟩) KC (exec_bin (fun _ => cat_run (by (try simp only [List.length_append, List.length_cons, List.length_nil, List.length_replicate, be_len]); omega))) (hi := rfl) (k := ?_)
          refine WA.quietR 15 (d := 32) (.string ⟨([(UInt8.ofNat ((p.length) % 256))] ++ (be 4 (crc (p ++ ((be 8 e) ++ (be 8 n))))) ++ p).toArray⟩) KC (exec_bin (fun _ => cat_run (by (try simp only [List.length_append, List.length_cons, List.length_nil, List.length_replicate, be_len]); omega))) (hi := rfl) (k := ?_)
          refine WA.step 16 (hi := rfl) (k := ?_)
          refine WL.op (d := 5) (.string ⟨([(UInt8.ofNat ((p.length) % 256))] ++ (be 4 (crc (p ++ ((be 8 e) ++ (be 8 n))))) ++ p).toArray⟩) (k := ?_)
          refine WL.nil ?_
          refine WX.nxtL ?_
          refine WA.done (k := ?_)
          clear KC
          refine WX.seqN ?_
          refine WC.seq ?_
          refine WC.block ?_
          refine WC.rw (t := 5) (v := .string ⟨(mk0 p e n ++ List.replicate 0 (0 : UInt8)).toArray⟩) (congrArg (fun l : List UInt8 => Value.string ⟨l.toArray⟩) (show [(UInt8.ofNat ((p.length) % 256))] ++ (be 4 (crc (p ++ ((be 8 e) ++ (be 8 n))))) ++ p = mk0 p e n ++ List.replicate 0 (0 : UInt8) by simp [mk0, tagsS, Nat.mod_eq_of_lt (show p.length < 256 by omega)])) (k := ?_)
          refine WC.rw (t := 4) (v := .string ⟨(tagsS e n).toArray⟩) (congrArg (fun l : List UInt8 => Value.string ⟨l.toArray⟩) rfl) (k := ?_)
          refine WC.loop (ι := Nat) (fun (j : Nat) => [(0, .agg #[.string ⟨(p).toArray⟩, .int .u64 ((e : Nat) : Int), .int .u64 ((n : Nat) : Int)]), (1, .pointer (some ⟨b1, 0, none⟩)), (2, .string ⟨#[]⟩), (3, .int .i64 0), (6, .pointer (some ⟨b1, 0, none⟩)), (7, .string ⟨(p).toArray⟩), (8, .int .i64 (p.length : Int)), (9, .bool (decide ((p.length : Int) > 43))), (10, .pointer (some ⟨b1, 1, none⟩)), (11, .int .u64 ((e : Nat) : Int)), (12, .string ⟨(be 8 e).toArray⟩), (13, .pointer (some ⟨b1, 2, none⟩)), (14, .int .u64 ((n : Nat) : Int)), (15, .string ⟨(be 8 n).toArray⟩), (16, .string ⟨((be 8 e) ++ (be 8 n)).toArray⟩), (4, .string ⟨(tagsS e n).toArray⟩), (17, .pointer (some ⟨b1, 0, none⟩)), (18, .string ⟨(p).toArray⟩), (19, .int .i64 (p.length : Int)), (20, .int .u8 ((UInt8.ofNat ((p.length) % 256)).toNat : Int)), (23, .pointer (some ⟨b1, 0, none⟩)), (24, .string ⟨(p).toArray⟩), (25, .string ⟨((be 8 e) ++ (be 8 n)).toArray⟩), (26, .string ⟨(p ++ ((be 8 e) ++ (be 8 n))).toArray⟩), (30, .pointer (some ⟨b1, 0, none⟩)), (31, .string ⟨(p).toArray⟩), (27, .int .u32 ((crc (p ++ ((be 8 e) ++ (be 8 n))) : Nat) : Int)), (21, .slice (some ⟨b51, 0, none⟩) 1 1), (28, .string ⟨(be 4 (crc (p ++ ((be 8 e) ++ (be 8 n))))).toArray⟩), (22, .string ⟨#[(UInt8.ofNat ((p.length) % 256))]⟩), (29, .string ⟨([(UInt8.ofNat ((p.length) % 256))] ++ (be 4 (crc (p ++ ((be 8 e) ++ (be 8 n)))))).toArray⟩), (32, .string ⟨([(UInt8.ofNat ((p.length) % 256))] ++ (be 4 (crc (p ++ ((be 8 e) ++ (be 8 n))))) ++ p).toArray⟩), (5, .string ⟨(mk0 p e n ++ List.replicate j (0 : UInt8)).toArray⟩)]) (fun (j : Nat) (w_ : World) => (Keeps (fun _ => False) w w_) ∧ (w_.heap[b1]? = some (.cells #[.string ⟨(p).toArray⟩, .int .u64 ((e : Nat) : Int), .int .u64 ((n : Nat) : Int)] 96 (0, 0))) ∧ (w_.heap[b51]? = some (.cells #[.int .u8 ((UInt8.ofNat ((p.length) % 256)).toNat : Int)] 5 (0, 0))) ∧ (j ≤ 43 - p.length)) (fun (j : Nat) => (43 - j)) 0 ⟨(by kernel_rfl), (by kernel_rfl), (by kernel_rfl), (by kernel_rfl), (by kernel_rfl), (by kernel_rfl), (by kernel_rfl), (by kernel_rfl), (by kernel_rfl), (by kernel_rfl), (by kernel_rfl), (by kernel_rfl), (by kernel_rfl), (by kernel_rfl), (by kernel_rfl), (by kernel_rfl), (by kernel_rfl), (by kernel_rfl), (by kernel_rfl), (by kernel_rfl), (by kernel_rfl), (by kernel_rfl), (by kernel_rfl), (by kernel_rfl), (by kernel_rfl), (by kernel_rfl), (by kernel_rfl), (by kernel_rfl), (by kernel_rfl), (by kernel_rfl), (by kernel_rfl), (by kernel_rfl), (by kernel_rfl), trivial⟩ ⟨K, hb4, hb54, (by omega)⟩ ?_
          rintro j w67 ⟨K, hb68, hb69, j1⟩
          have lm_ := mk0_len p e n
          have lj_ : (mk0 p e n ++ List.replicate j (0 : UInt8)).length = 5 + p.length + j := by simp [lm_]
          have lt_ := tagsS_len e n
          refine WC.seq ?_
          refine WC.seq ?_
          refine WC.region ?_
          refine WL.op (d := 33) (.string ⟨(mk0 p e n ++ List.replicate j (0 : UInt8)).toArray⟩) (k := ?_)
          refine WL.op (d := 34) (.int .i64 ((mk0 p e n ++ List.replicate j (0 : UInt8)).length : Int)) (k := ?_)
          refine WL.op (d := 35) (.bool (decide (((mk0 p e n ++ List.replicate j (0 : UInt8)).length : Int) < 48))) (k := ?_)
          refine WL.nil ?_
          refine WX.seqN ?_
          refine WC.cond (b := decide (((mk0 p e n ++ List.replicate j (0 : UInt8)).length : Int) < 48)) (ht := fun h70 => ?_) (hf := fun h70 => ?_)
          · have ph70 := of_decide_eq_true h70
            refine WC.skip ?_
            refine WX.seqN ?_
            refine WC.block ?_
            refine WC.region ?_
            refine WL.op (d := 36) (.string ⟨(mk0 p e n ++ List.replicate j (0 : UInt8)).toArray⟩) (k := ?_)
            refine WL.bin (d := 37) (v := .string ⟨(mk0 p e n ++ List.replicate j (0 : UInt8) ++ [0]).toArray⟩) (cat_run (by (try simp only [List.length_append, List.length_cons, List.length_nil, List.length_replicate, be_len]); omega)) (k := ?_)
            refine WL.op (d := 5) (.string ⟨(mk0 p e n ++ List.replicate j (0 : UInt8) ++ [0]).toArray⟩) (k := ?_)
            refine WL.nil ?_
            refine WX.blockN ?_
            refine WX.rw (t := 5) (v := .string ⟨(mk0 p e n ++ List.replicate (j + 1) (0 : UInt8)).toArray⟩) (congrArg (fun l : List UInt8 => Value.string ⟨l.toArray⟩) (pad_one _ j)) (k := ?_)
            refine WX.round (j + 1) (by show (43 - (j + 1)) < (43 - j); omega) ⟨(by kernel_rfl), (by kernel_rfl), (by kernel_rfl), (by kernel_rfl), (by kernel_rfl), (by kernel_rfl), (by kernel_rfl), (by kernel_rfl), (by kernel_rfl), (by kernel_rfl), (by kernel_rfl), (by kernel_rfl), (by kernel_rfl), (by kernel_rfl), (by kernel_rfl), (by kernel_rfl), (by kernel_rfl), (by kernel_rfl), (by kernel_rfl), (by kernel_rfl), (by kernel_rfl), (by kernel_rfl), (by kernel_rfl), (by kernel_rfl), (by kernel_rfl), (by kernel_rfl), (by kernel_rfl), (by kernel_rfl), (by kernel_rfl), (by kernel_rfl), (by kernel_rfl), (by kernel_rfl), (by kernel_rfl), trivial⟩ ⟨K, hb68, hb69, (by omega)⟩
          · have ph70 := of_decide_eq_false h70
            refine WC.exit ?_
            refine WX.seqE ?_
            refine WX.seqE ?_
            refine WX.blockE ?_
            refine WX.seqN ?_
            refine WC.seq ?_
            refine WC.region ?_
            refine WL.op (d := 38) (.string ⟨(mk0 p e n ++ List.replicate j (0 : UInt8)).toArray⟩) (k := ?_)
            refine WL.op (d := 39) (.string ⟨(tagsS e n).toArray⟩) (k := ?_)
            refine WL.bin (d := 40) (v := .string ⟨(mk0 p e n ++ List.replicate j (0 : UInt8) ++ (tagsS e n)).toArray⟩) (cat_run (by (try simp only [List.length_append, List.length_cons, List.length_nil, List.length_replicate, be_len]); omega)) (k := ?_)
            refine WL.op (d := 2) (.string ⟨(mk0 p e n ++ List.replicate j (0 : UInt8) ++ (tagsS e n)).toArray⟩) (k := ?_)
            refine WL.op (d := 3) (.int .i64 0) (k := ?_)
            refine WL.nil ?_
            refine WX.seqN ?_
            refine WC.ret ?_
            refine WX.ret (rs := [.tmp 2, .tmp 3]) [.string ⟨(mk0 p e n ++ List.replicate j (0 : UInt8) ++ (tagsS e n)).toArray⟩, .int .i64 0] (.tuple #[.string ⟨(mk0 p e n ++ List.replicate j (0 : UInt8) ++ (tagsS e n)).toArray⟩, .int .i64 0]) ⟨(by kernel_rfl), (by kernel_rfl), trivial⟩ (k := ?_)
            exfalso; omega
      · refine WL.callG (d := 28) (f := 59) (args := #[.int .u32 ((crc (p ++ ((be 8 e) ++ (be 8 n))) : Nat) : Int)]) (u02Bytes_c (n := crc (p ++ ((be 8 e) ++ (be 8 n)))) (by omega) w49) (k := fun e_ w71 h_ => ⟨.string ⟨(be 4 (crc (p ++ ((be 8 e) ++ (be 8 n))))).toArray⟩, h_.1, ?_⟩)
        have k72 := h_.2; clear h_
        replace hb4 := k72.heap hb4 id
        replace K := K.trans (k72.any _)
        replace KC := KC.trans (k72.any _)
        refine WL.nil ?_
        refine WX.nxt KC ?_
        refine WA.step 4 (hi := rfl) (k := ?_)
        refine WL.newF (d := 21) (T := 5) #[.int .u8 ((UInt8.ofNat ((p.length) % 256)).toNat : Int)] (fun b => .slice (some ⟨b, 0, none⟩) 1 1) (k := fun b73 w74 g75 hb76 k77 => ?_)
        have z78 := Nat.le_trans K.size g75
        have zc79 := Nat.le_trans KC.size g75
        have n80 : b1 ≠ b73 := Nat.ne_of_lt (Nat.lt_of_lt_of_le (lt_of_heap hb4) g75)
        replace hb4 := k77.heap hb4 id
        replace K := K.trans (k77.any _)
        replace KC := KC.trans (k77.any _)
        refine WL.nil ?_
        refine WX.nxt KC ?_
        refine WA.step 5 (hi := rfl) (k := ?_)
        refine WL.conv (d := 22) (vx := .slice (some ⟨b73, 0, none⟩) 1 1) (v := .string ⟨#[(UInt8.ofNat ((p.length) % 256))]⟩) (run_ofBytes (T := 87) (S := 9) (E := 5) (l := [(UInt8.ofNat ((p.length) % 256))]) (by kernel_rfl) (by kernel_rfl) (by kernel_rfl) hb76 rfl (by kernel_rfl)) (k := ?_)
        refine WL.nil ?_
        refine WX.nxt KC ?_
        refine WA.quietR 12 (d := 29) (.string ⟨([(UInt8.ofNat ((p.length) % 256))] ++ (be 4 (crc (p ++ ((be 8 e) ++ (be 8 n)))))).toArray⟩) KC (exec_bin (fun _ => cat_run (by (try simp only [List.length_append, List.length_cons, List.length_nil, List.length_replicate, be_len]); omega))) (hi := rfl) (k := ?_)
        refine WA.quietR 15 (d := 32) (.string ⟨([(UInt8.ofNat ((p.length) % 256))] ++ (be 4 (crc (p ++ ((be 8 e) ++ (be 8 n))))) ++ p).toArray⟩) KC (exec_bin (fun _ => cat_run (by (try simp only [List.length_append, List.length_cons, List.length_nil, List.length_replicate, be_len]); omega))) (hi := rfl) (k := ?_)
        refine WA.step 16 (hi := rfl) (k := ?_)
        refine WL.op (d := 5) (.string ⟨([(UInt8.ofNat ((p.length) % 256))] ++ (be 4 (crc (p ++ ((be 8 e) ++ (be 8 n))))) ++ p).toArray⟩) (k := ?_)
        refine WL.nil ?_
        refine WX.nxtL ?_
        refine WA.done (k := ?_)
        clear KC
        refine WX.seqN ?_
        refine WC.seq ?_
        refine WC.block ?_
        refine WC.rw (t := 5) (v := .string ⟨(mk0 p e n ++ List.replicate 0 (0 : UInt8)).toArray⟩) (congrArg (fun l : List UInt8 => Value.string ⟨l.toArray⟩) (show [(UInt8.ofNat ((p.length) % 256))] ++ (be 4 (crc (p ++ ((be 8 e) ++ (be 8 n))))) ++ p = mk0 p e n ++ List.replicate 0 (0 : UInt8) by simp [mk0, tagsS, Nat.mod_eq_of_lt (show p.length < 256 by omega)])) (k := ?_)
        refine WC.rw (t := 4) (v := .string ⟨(tagsS e n).toArray⟩) (congrArg (fun l : List UInt8 => Value.string ⟨l.toArray⟩) rfl) (k := ?_)
        refine WC.loop (ι := Nat) (fun (j : Nat) => [(0, .agg #[.string ⟨(p).toArray⟩, .int .u64 ((e : Nat) : Int), .int .u64 ((n : Nat) : Int)]), (1, .pointer (some ⟨b1, 0, none⟩)), (2, .string ⟨#[]⟩), (3, .int .i64 0), (6, .pointer (some ⟨b1, 0, none⟩)), (7, .string ⟨(p).toArray⟩), (8, .int .i64 (p.length : Int)), (9, .bool (decide ((p.length : Int) > 43))), (10, .pointer (some ⟨b1, 1, none⟩)), (11, .int .u64 ((e : Nat) : Int)), (12, .string ⟨(be 8 e).toArray⟩), (13, .pointer (some ⟨b1, 2, none⟩)), (14, .int .u64 ((n : Nat) : Int)), (15, .string ⟨(be 8 n).toArray⟩), (16, .string ⟨((be 8 e) ++ (be 8 n)).toArray⟩), (4, .string ⟨(tagsS e n).toArray⟩), (17, .pointer (some ⟨b1, 0, none⟩)), (18, .string ⟨(p).toArray⟩), (19, .int .i64 (p.length : Int)), (20, .int .u8 ((UInt8.ofNat ((p.length) % 256)).toNat : Int)), (23, .pointer (some ⟨b1, 0, none⟩)), (24, .string ⟨(p).toArray⟩), (25, .string ⟨((be 8 e) ++ (be 8 n)).toArray⟩), (26, .string ⟨(p ++ ((be 8 e) ++ (be 8 n))).toArray⟩), (30, .pointer (some ⟨b1, 0, none⟩)), (31, .string ⟨(p).toArray⟩), (27, .int .u32 ((crc (p ++ ((be 8 e) ++ (be 8 n))) : Nat) : Int)), (28, .string ⟨(be 4 (crc (p ++ ((be 8 e) ++ (be 8 n))))).toArray⟩), (21, .slice (some ⟨b73, 0, none⟩) 1 1), (22, .string ⟨#[(UInt8.ofNat ((p.length) % 256))]⟩), (29, .string ⟨([(UInt8.ofNat ((p.length) % 256))] ++ (be 4 (crc (p ++ ((be 8 e) ++ (be 8 n)))))).toArray⟩), (32, .string ⟨([(UInt8.ofNat ((p.length) % 256))] ++ (be 4 (crc (p ++ ((be 8 e) ++ (be 8 n))))) ++ p).toArray⟩), (5, .string ⟨(mk0 p e n ++ List.replicate j (0 : UInt8)).toArray⟩)]) (fun (j : Nat) (w_ : World) => (Keeps (fun _ => False) w w_) ∧ (w_.heap[b1]? = some (.cells #[.string ⟨(p).toArray⟩, .int .u64 ((e : Nat) : Int), .int .u64 ((n : Nat) : Int)] 96 (0, 0))) ∧ (w_.heap[b73]? = some (.cells #[.int .u8 ((UInt8.ofNat ((p.length) % 256)).toNat : Int)] 5 (0, 0))) ∧ (j ≤ 43 - p.length)) (fun (j : Nat) => (43 - j)) 0 ⟨(by kernel_rfl), (by kernel_rfl), (by kernel_rfl), (by kernel_rfl), (by kernel_rfl), (by kernel_rfl), (by kernel_rfl), (by kernel_rfl), (by kernel_rfl), (by kernel_rfl), (by kernel_rfl), (by kernel_rfl), (by kernel_rfl), (by kernel_rfl), (by kernel_rfl), (by kernel_rfl), (by kernel_rfl), (by kernel_rfl), (by kernel_rfl), (by kernel_rfl), (by kernel_rfl), (by kernel_rfl), (by kernel_rfl), (by kernel_rfl), (by kernel_rfl), (by kernel_rfl), (by kernel_rfl), (by kernel_rfl), (by kernel_rfl), (by kernel_rfl), (by kernel_rfl), (by kernel_rfl), (by kernel_rfl), trivial⟩ ⟨K, hb4, hb76, (by omega)⟩ ?_
        rintro j w81 ⟨K, hb82, hb83, j1⟩
        have lm_ := mk0_len p e n
        have lj_ : (mk0 p e n ++ List.replicate j (0 : UInt8)).length = 5 + p.length + j := by simp [lm_]
        have lt_ := tagsS_len e n
        refine WC.seq ?_
        refine WC.seq ?_
        refine WC.region ?_
        refine WL.op (d := 33) (.string ⟨(mk0 p e n ++ List.replicate j (0 : UInt8)).toArray⟩) (k := ?_)
        refine WL.op (d := 34) (.int .i64 ((mk0 p e n ++ List.replicate j (0 : UInt8)).length : Int)) (k := ?_)
        refine WL.op (d := 35) (.bool (decide (((mk0 p e n ++ List.replicate j (0 : UInt8)).length : Int) < 48))) (k := ?_)
        refine WL.nil ?_
        refine WX.seqN ?_
        refine WC.cond (b := decide (((mk0 p e n ++ List.replicate j (0 : UInt8)).length : Int) < 48)) (ht := fun h84 => ?_) (hf := fun h84 => ?_)
        · have ph84 := of_decide_eq_true h84
          refine WC.skip ?_
          refine WX.seqN ?_
          refine WC.block ?_
          refine WC.region ?_
          refine WL.op (d := 36) (.string ⟨(mk0 p e n ++ List.replicate j (0 : UInt8)).toArray⟩) (k := ?_)
          refine WL.bin (d := 37) (v := .string ⟨(mk0 p e n ++ List.replicate j (0 : UInt8) ++ [0]).toArray⟩) (cat_run (by (try simp only [List.length_append, List.length_cons, List.length_nil, List.length_replicate, be_len]); omega)) (k := ?_)
          refine WL.op (d := 5) (.string ⟨(mk0 p e n ++ List.replicate j (0 : UInt8) ++ [0]).toArray⟩) (k := ?_)
          refine WL.nil ?_
          refine WX.blockN ?_
          refine WX.rw (t := 5) (v := .string ⟨(mk0 p e n ++ List.replicate (j + 1) (0 : UInt8)).toArray⟩) (congrArg (fun l : List UInt8 => Value.string ⟨l.toArray⟩) (pad_one _ j)) (k := ?_)
          refine WX.round (j + 1) (by show (43 - (j + 1)) < (43 - j); omega) ⟨(by kernel_rfl), (by kernel_rfl), (by kernel_rfl), (by kernel_rfl), (by kernel_rfl), (by kernel_rfl), (by kernel_rfl), (by kernel_rfl), (by kernel_rfl), (by kernel_rfl), (by kernel_rfl), (by kernel_rfl), (by kernel_rfl), (by kernel_rfl), (by kernel_rfl), (by kernel_rfl), (by kernel_rfl), (by kernel_rfl), (by kernel_rfl), (by kernel_rfl), (by kernel_rfl), (by kernel_rfl), (by kernel_rfl), (by kernel_rfl), (by kernel_rfl), (by kernel_rfl), (by kernel_rfl), (by kernel_rfl), (by kernel_rfl), (by kernel_rfl), (by kernel_rfl), (by kernel_rfl), (by kernel_rfl), trivial⟩ ⟨K, hb82, hb83, (by omega)⟩
        · have ph84 := of_decide_eq_false h84
          refine WC.exit ?_
          refine WX.seqE ?_
          refine WX.seqE ?_
          refine WX.blockE ?_
          refine WX.seqN ?_
          refine WC.seq ?_
          refine WC.region ?_
          refine WL.op (d := 38) (.string ⟨(mk0 p e n ++ List.replicate j (0 : UInt8)).toArray⟩) (k := ?_)
          refine WL.op (d := 39) (.string ⟨(tagsS e n).toArray⟩) (k := ?_)
          refine WL.bin (d := 40) (v := .string ⟨(mk0 p e n ++ List.replicate j (0 : UInt8) ++ (tagsS e n)).toArray⟩) (cat_run (by (try simp only [List.length_append, List.length_cons, List.length_nil, List.length_replicate, be_len]); omega)) (k := ?_)
          refine WL.op (d := 2) (.string ⟨(mk0 p e n ++ List.replicate j (0 : UInt8) ++ (tagsS e n)).toArray⟩) (k := ?_)
          refine WL.op (d := 3) (.int .i64 0) (k := ?_)
          refine WL.nil ?_
          refine WX.seqN ?_
          refine WC.ret ?_
          refine WX.ret (rs := [.tmp 2, .tmp 3]) [.string ⟨(mk0 p e n ++ List.replicate j (0 : UInt8) ++ (tagsS e n)).toArray⟩, .int .i64 0] (.tuple #[.string ⟨(mk0 p e n ++ List.replicate j (0 : UInt8) ++ (tagsS e n)).toArray⟩, .int .i64 0]) ⟨(by kernel_rfl), (by kernel_rfl), trivial⟩ (k := ?_)
          exfalso; omega

end Go.Proofs.YtdoenmokahbeaaaGreatDoor
