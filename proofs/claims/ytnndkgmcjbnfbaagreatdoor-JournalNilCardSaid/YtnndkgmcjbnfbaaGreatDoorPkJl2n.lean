/- Jl2n. -/
import Derived.Test.YtnndkgmcjbnfbaaGreatDoorPk6
import Derived.Test.YtnndkgmcjbnfbaaGreatDoorPkJl2
namespace Go.Proofs.YtnndkgmcjbnfbaaGreatDoor
open Go.RowKit
set_option linter.unusedVariables false
set_option linter.unusedSimpArgs false
set_option maxRecDepth 100000 in
set_option maxHeartbeats 4000000 in
theorem lJournalNil_c (x k : Int) (kr : (-9223372036854775808 ≤ k ∧ k ≤ 9223372036854775807)) (w : World) : Calls Tryz.prog 6 #[.int .i64 x, .int .i64 k] w fun e w' => e = .returned (.bool true) ∧ Adds w w' := by
  have K : Keeps (fun _ => False) w w := Keeps.refl _ w
  refine Calls.start Tryz.func6 rfl (by kernel_rfl) ?_
  refine WC.seq ?_
  refine WC.region ?_
  refine WL.op (d := 4) (.bool false) (k := ?_)
  refine WL.nil ?_
  refine WX.seqN ?_
  refine WC.seq ?_
  refine WC.region ?_
  refine WL.op (d := 17) (.int .i64 x) (k := ?_)
  refine WL.bin (d := 18) (v := .int .i64 (Int.tmod x 20)) (rem_run (by omega)) (k := ?_)
  have m1 := tmod_rng x 20 (by omega)
  obtain ⟨r2, e3⟩ : ∃ r : Int, Int.tmod x 20 = r := ⟨_, rfl⟩
  rw [e3] at m1
  refine WL.rw (t := 18) (v := .int .i64 r2) (congrArg (Value.int .i64) e3) (k := ?_)
  refine WL.opE (d := 19) (.int .i64 (IntKind.i64.wrap (r2 + 20))) (v := .int .i64 (r2 + 20)) (congrArg (Value.int .i64) (IntWalk.i64_in _ (by omega))) (k := ?_)
  refine WL.bin (d := 20) (v := .int .i64 (Int.tmod (r2 + 20) 20)) (rem_run (by omega)) (k := ?_)
  have m4 := tmod_rng (r2 + 20) 20 (by omega)
  obtain ⟨r5, e6⟩ : ∃ r : Int, Int.tmod (r2 + 20) 20 = r := ⟨_, rfl⟩
  rw [e6] at m4
  refine WL.rw (t := 20) (v := .int .i64 r5) (congrArg (Value.int .i64) e6) (k := ?_)
  refine WL.opE (d := 21) (.int .i64 (IntKind.i64.wrap (1 + r5))) (v := .int .i64 (1 + r5)) (congrArg (Value.int .i64) (IntWalk.i64_in _ (by omega))) (k := ?_)
  refine WL.op (d := 5) (.int .i64 (1 + r5)) (k := ?_)
  refine WL.nil ?_
  refine WX.seqN ?_
  refine WC.seq ?_
  obtain ⟨m, hm⟩ : ∃ q : Nat, 1 + r5 = (q : Int) := ⟨Int.toNat (1 + r5), by omega⟩
  refine WC.rw (t := 5) (v := .int .i64 (m : Int)) (congrArg (Value.int .i64) hm) (k := ?_)
  refine WC.region ?_
  refine WL.op (d := 22) (.int .i64 (m : Int)) (k := ?_)
  refine WL.callG (d := 23) (f := 9) (args := #[.int .i64 (m : Int)]) (dNew_ok (n := m) (by omega) (by omega) w) (k := fun e_ w7 h_ => ?_)
  obtain ⟨b8, S9, rfl, g10, hd11, ho12, k13⟩ := h_
  refine ⟨_, rfl, ?_⟩
  have lk14 : ∀ k, S9 k → False ∨ w.heap.size ≤ k := fun k h => .inr (Nat.le_trans K.size (ho12 k h))
  have z15 := Nat.le_trans K.size g10
  replace K := K.trans (k13.any _)
  refine WL.op (d := 6) (.pointer (some ⟨b8, 0, none⟩)) (k := ?_)
  refine WL.nil ?_
  refine WX.seqN ?_
  refine WC.seq ?_
  refine WC.region ?_
  refine WL.op (d := 25) (.pointer (some ⟨b8, 0, none⟩)) (k := ?_)
  refine WL.op (d := 26) (.int .i64 k) (k := ?_)
  refine bsplit (decide (1 ≤ k ∧ k ≤ 64 ∧ 2 * k < (m : Int))) (fun h16 => ?_) (fun h16 => ?_)
  · have ph16 := of_decide_eq_true h16
    refine WL.callG (d := 27) (f := 13) (args := #[.pointer (some ⟨b8, 0, none⟩), .int .i64 k]) (jz_open (k := k) (m := m) (rd := 0) hd11 ph16) (k := fun e_ w17 h_ => ?_)
    obtain ⟨rd18, S19, rfl, hd20, lk21, k22⟩ := h_
    refine ⟨_, rfl, ?_⟩
    have lk23 := lk_step lk14 lk21 K
    replace K := K.trans' k22 (fun i hi e => (lk14 i e).elim (fun h => h.elim) (fun h => absurd hi (Nat.not_lt.2 h)))
    clear hd11
    refine WL.op (d := 24) (.tuple #[.pointer none, .agg #[.string ⟨#[]⟩, .slice none 0 0], .int .i64 12]) (k := ?_)
    refine WL.op (d := 28) (.pointer none) (k := ?_)
    refine WL.op (d := 29) (.agg #[.string ⟨#[]⟩, .slice none 0 0]) (k := ?_)
    refine WL.op (d := 30) (.int .i64 12) (k := ?_)
    refine WL.new (d := 8) (T := 33) #[.string ⟨#[]⟩, .slice none 0 0] (k := fun b24 w25 g26 hb27 k28 => ?_)
    have z29 := Nat.le_trans K.size g26
    have n30 : ¬ S19 b24 := fun h => absurd (hd20.lt _ h) (Nat.not_lt.2 g26)
    replace hd20 := hd20.adds k28
    replace K := K.trans (k28.any _)
    refine WL.op (d := 7) (.pointer none) (k := ?_)
    refine WL.store (v := .agg #[.string ⟨#[]⟩, .slice none 0 0]) (i := 0) (cs' := #[.string ⟨#[]⟩, .slice none 0 0]) hb27 (k := fun w31 hb32 k33 => ?_)
    replace hd20 := hd20.keeps k33 (fun i hi e => n30 (e ▸ hi))
    replace K := K.trans' k33 (fun i hi e => absurd (e ▸ hi) (Nat.not_lt.2 z29))
    clear hb27
    refine WL.op (d := 9) (.int .i64 12) (k := ?_)
    refine WL.nil ?_
    refine WX.seqN ?_
    refine WC.seq ?_
    obtain ⟨kn, hkn⟩ : ∃ q : Nat, k = (q : Int) := ⟨Int.toNat k, by omega⟩
    refine WC.rw (t := 1) (v := .int .i64 (kn : Int)) (congrArg (Value.int .i64) hkn) (k := ?_)
    refine WC.region ?_
    refine WL.op (d := 32) (.pointer (some ⟨b8, 0, none⟩)) (k := ?_)
    refine WL.op (d := 33) (.int .i64 (kn : Int)) (k := ?_)
    refine WL.callG (d := 34) (f := 10) (args := #[.pointer (some ⟨b8, 0, none⟩), .int .i64 (kn : Int), .string ⟨#[]⟩]) (jg_format (k := kn) (n := m - 2 * kn) (m := m) (rd := rd18) (l := []) (by omega) hd20 (by omega) (by omega) (by omega) (by omega) (by simp)) (k := fun e_ w34 h_ => ?_)
    obtain ⟨jb35, rfl, S36, hd37, lk38, k39⟩ := h_
    refine ⟨_, rfl, ?_⟩
    have n40 : ¬ S36 b24 := fun h => (lk38 _ h).elim n30 (fun h2 => absurd (lt_of_heap hb32) (Nat.not_lt.2 h2))
    have lk41 := lk_step lk23 lk38 K
    replace hb32 := k39.heap hb32 n30
    replace K := K.trans' k39 (fun i hi e => (lk23 i e).elim (fun h => h.elim) (fun h => absurd hi (Nat.not_lt.2 h)))
    clear hd20
    refine WL.op (d := 31) (.tuple #[.pointer (some ⟨jb35, 0, none⟩), .int .i64 0]) (k := ?_)
    refine WL.op (d := 35) (.pointer (some ⟨jb35, 0, none⟩)) (k := ?_)
    refine WL.op (d := 36) (.int .i64 0) (k := ?_)
    refine WL.op (d := 10) (.pointer (some ⟨jb35, 0, none⟩)) (k := ?_)
    refine WL.op (d := 11) (.int .i64 0) (k := ?_)
    refine WL.nil ?_
    refine WX.seqN ?_
    refine WC.seq ?_
    refine WC.region ?_
    refine WL.op (d := 37) (.int .i64 (kn : Int)) (k := ?_)
    refine WL.op (d := 38) (.bool (decide ((kn : Int) ≥ 1))) (k := ?_)
    refine WL.op (d := 39) (.bool (decide ((kn : Int) ≥ 1))) (k := ?_)
    refine bsplit (decide ((kn : Int) ≥ 1)) (fun h42 => ?_) (fun h42 => ?_)
    · have ph42 := of_decide_eq_true h42
      refine WL.rw (t := 39) (v := .bool true) (congrArg Value.bool h42) (k := ?_)
      refine WL.op (d := 40) (.int .i64 (kn : Int)) (k := ?_)
      refine WL.op (d := 41) (.bool (decide ((kn : Int) ≤ 64))) (k := ?_)
      refine WL.op (d := 42) (.bool (decide ((kn : Int) ≤ 64))) (k := ?_)
      refine WL.op (d := 43) (.bool (decide ((kn : Int) ≤ 64))) (k := ?_)
      refine bsplit (decide ((kn : Int) ≤ 64)) (fun h43 => ?_) (fun h43 => ?_)
      · have ph43 := of_decide_eq_true h43
        refine WL.rw (t := 43) (v := .bool true) (congrArg Value.bool h43) (k := ?_)
        refine WL.op (d := 44) (.int .i64 (m : Int)) (k := ?_)
        refine WL.op (d := 45) (.int .i64 (kn : Int)) (k := ?_)
        refine WL.opE (d := 46) (.int .i64 (IntKind.i64.wrap (2 * (kn : Int)))) (v := .int .i64 (2 * (kn : Int))) (congrArg (Value.int .i64) (IntWalk.i64_in _ (by omega))) (k := ?_)
        refine WL.op (d := 47) (.bool (decide ((m : Int) > (2 * (kn : Int))))) (k := ?_)
        refine WL.op (d := 48) (.bool (decide ((m : Int) > (2 * (kn : Int))))) (k := ?_)
        refine WL.op (d := 12) (.bool (decide ((m : Int) > (2 * (kn : Int))))) (k := ?_)
        refine WL.nil ?_
        refine WX.seqN ?_
        refine WC.seq ?_
        refine WC.region ?_
        refine WL.op (d := 13) (.pointer none) (k := ?_)
        refine WL.nil ?_
        refine WX.seqN ?_
        refine WC.seq ?_
        refine WC.region ?_
        refine WL.op (d := 49) (.int .i64 12) (k := ?_)
        refine WL.op (d := 50) (.bool false) (k := ?_)
        refine WL.op (d := 51) (.bool false) (k := ?_)
        refine WL.skip (d := 52) (k := ?_)
        refine WL.skip (d := 53) (k := ?_)
        refine WL.op (d := 54) (.bool false) (k := ?_)
        refine WL.op (d := 55) (.bool false) (k := ?_)
        refine WL.skip (d := 56) (k := ?_)
        refine WL.skip (d := 57) (k := ?_)
        refine WL.op (d := 58) (.bool false) (k := ?_)
        refine WL.op (d := 14) (.bool false) (k := ?_)
        refine WL.nil ?_
        refine WX.seqN ?_
        refine WC.seq ?_
        refine WC.seq ?_
        refine WC.region ?_
        refine WL.op (d := 59) (.bool (decide ((m : Int) > (2 * (kn : Int))))) (k := ?_)
        refine WL.nil ?_
        refine WX.seqN ?_
        refine WC.cond (b := decide ((m : Int) > (2 * (kn : Int)))) (ht := fun h44 => ?_) (hf := fun h44 => ?_)
        · have ph44 := of_decide_eq_true h44
          refine WC.region ?_
          refine WL.op (d := 60) (.int .i64 12) (k := ?_)
          refine WL.op (d := 61) (.bool true) (k := ?_)
          refine WL.op (d := 62) (.bool true) (k := ?_)
          refine WL.op (d := 63) (.int .i64 0) (k := ?_)
          refine WL.op (d := 64) (.bool true) (k := ?_)
          refine WL.op (d := 65) (.bool true) (k := ?_)
          refine WL.op (d := 66) (.bool true) (k := ?_)
          refine WL.op (d := 67) (.pointer (some ⟨jb35, 0, none⟩)) (k := ?_)
          refine WL.op (d := 68) (.bool true) (k := ?_)
          refine WL.op (d := 69) (.bool true) (k := ?_)
          refine WL.op (d := 14) (.bool true) (k := ?_)
          refine WL.nil ?_
          refine WX.seqN ?_
          refine WC.seq ?_
          refine WC.region ?_
          refine WL.callG (d := 71) (f := 10) (args := #[.pointer none, .int .i64 1, .string ⟨#[]⟩]) (jnFormat_nil (k := 1) (l := []) (by omega) (by omega) w34) (k := fun e_ w45 h_ => ⟨.tuple #[.pointer none, .int .i64 1], h_.1, ?_⟩)
          have k46 := h_.2; clear h_
          replace hb32 := k46.heap hb32 id
          replace K := K.trans (k46.any _)
          refine WL.op (d := 70) (.tuple #[.pointer none, .int .i64 1]) (k := ?_)
          refine WL.op (d := 72) (.pointer none) (k := ?_)
          refine WL.op (d := 73) (.int .i64 1) (k := ?_)
          refine WL.op (d := 15) (.pointer none) (k := ?_)
          refine WL.op (d := 16) (.int .i64 1) (k := ?_)
          refine WL.nil ?_
          refine WX.seqN ?_
          refine WC.seq ?_
          refine WC.region ?_
          refine WL.callG (d := 74) (f := 8) (args := #[]) (l08awake_c w45) (k := fun e_ w47 h_ => ⟨.bool true, h_.1, ?_⟩)
          have k48 := h_.2; clear h_
          replace hb32 := k48.heap hb32 id
          replace K := K.trans (k48.any _)
          refine WL.op (d := 75) (.bool true) (k := ?_)
          refine WL.op (d := 76) (.pointer none) (k := ?_)
          refine WL.op (d := 77) (.bool true) (k := ?_)
          refine WL.op (d := 78) (.bool true) (k := ?_)
          refine WL.op (d := 79) (.bool true) (k := ?_)
          refine WL.op (d := 80) (.bool true) (k := ?_)
          refine WL.op (d := 81) (.bool true) (k := ?_)
          refine WL.op (d := 82) (.bool true) (k := ?_)
          refine WL.op (d := 83) (.int .i64 1) (k := ?_)
          refine WL.op (d := 84) (.bool true) (k := ?_)
          refine WL.op (d := 85) (.bool true) (k := ?_)
          refine WL.op (d := 86) (.bool true) (k := ?_)
          refine WL.op (d := 87) (.pointer none) (k := ?_)
          refine WL.callG (d := 88) (f := 11) (args := #[.pointer none, .string ⟨#[]⟩]) (jnApp_nil (l := []) w47) (k := fun e_ w49 h_ => ⟨.int .i64 1, h_.1, ?_⟩)
          have k50 := h_.2; clear h_
          replace hb32 := k50.heap hb32 id
          replace K := K.trans (k50.any _)
          refine WL.op (d := 89) (.bool true) (k := ?_)
          refine WL.op (d := 90) (.bool true) (k := ?_)
          refine WL.op (d := 91) (.bool true) (k := ?_)
          refine WL.op (d := 92) (.pointer none) (k := ?_)
          refine WL.callG (d := 93) (f := 18) (args := #[.pointer none, .string ⟨#[]⟩]) (jnSnap_nil (l := []) w49) (k := fun e_ w51 h_ => ⟨.int .i64 1, h_.1, ?_⟩)
          have k52 := h_.2; clear h_
          replace hb32 := k52.heap hb32 id
          replace K := K.trans (k52.any _)
          refine WL.op (d := 94) (.bool true) (k := ?_)
          refine WL.op (d := 95) (.bool true) (k := ?_)
          refine WL.op (d := 96) (.bool true) (k := ?_)
          refine WL.op (d := 97) (.pointer none) (k := ?_)
          refine WL.callG (d := 98) (f := 20) (args := #[.pointer none]) (jnLeft_nil w51) (k := fun e_ w53 h_ => ⟨.int .i64 0, h_.1, ?_⟩)
          have k54 := h_.2; clear h_
          replace hb32 := k54.heap hb32 id
          replace K := K.trans (k54.any _)
          refine WL.op (d := 99) (.bool true) (k := ?_)
          refine WL.op (d := 100) (.bool true) (k := ?_)
          refine WL.op (d := 101) (.bool true) (k := ?_)
          refine WL.op (d := 102) (.pointer none) (k := ?_)
          refine WL.callG (d := 103) (f := 19) (args := #[.pointer none]) (jnGood_nil w53) (k := fun e_ w55 h_ => ⟨.bool false, h_.1, ?_⟩)
          have k56 := h_.2; clear h_
          replace hb32 := k56.heap hb32 id
          replace K := K.trans (k56.any _)
          refine WL.op (d := 104) (.bool true) (k := ?_)
          refine WL.op (d := 105) (.bool true) (k := ?_)
          refine WL.op (d := 106) (.bool true) (k := ?_)
          refine WL.op (d := 107) (.pointer none) (k := ?_)
          refine WL.callG (d := 108) (f := 16) (args := #[.pointer none]) (jnEpoch_nil w55) (k := fun e_ w57 h_ => ⟨.int .u64 0, h_.1, ?_⟩)
          have k58 := h_.2; clear h_
          replace hb32 := k58.heap hb32 id
          replace K := K.trans (k58.any _)
          refine WL.op (d := 109) (.bool true) (k := ?_)
          refine WL.op (d := 110) (.bool true) (k := ?_)
          refine WL.op (d := 4) (.bool true) (k := ?_)
          refine WL.nil ?_
          refine WX.seqN ?_
          refine WC.ret ?_
          refine WX.ret (rs := [.tmp 4]) [.bool true] (.bool true) ⟨(by kernel_rfl), trivial⟩ (k := ?_)
          exact ⟨rfl, K⟩
        · have ph44 := of_decide_eq_false h44
          refine WC.skip ?_
          refine WX.seqN ?_
          refine WC.seq ?_
          refine WC.region ?_
          refine WL.callG (d := 71) (f := 10) (args := #[.pointer none, .int .i64 1, .string ⟨#[]⟩]) (jnFormat_nil (k := 1) (l := []) (by omega) (by omega) w34) (k := fun e_ w59 h_ => ⟨.tuple #[.pointer none, .int .i64 1], h_.1, ?_⟩)
          have k60 := h_.2; clear h_
          replace hb32 := k60.heap hb32 id
          replace K := K.trans (k60.any _)
          refine WL.op (d := 70) (.tuple #[.pointer none, .int .i64 1]) (k := ?_)
          refine WL.op (d := 72) (.pointer none) (k := ?_)
          refine WL.op (d := 73) (.int .i64 1) (k := ?_)
          refine WL.op (d := 15) (.pointer none) (k := ?_)
          refine WL.op (d := 16) (.int .i64 1) (k := ?_)
          refine WL.nil ?_
          refine WX.seqN ?_
          refine WC.seq ?_
          refine WC.region ?_
          refine WL.callG (d := 74) (f := 8) (args := #[]) (l08awake_c w59) (k := fun e_ w61 h_ => ⟨.bool true, h_.1, ?_⟩)
          have k62 := h_.2; clear h_
          replace hb32 := k62.heap hb32 id
          replace K := K.trans (k62.any _)
          refine WL.op (d := 75) (.bool true) (k := ?_)
          refine WL.op (d := 76) (.pointer none) (k := ?_)
          refine WL.op (d := 77) (.bool true) (k := ?_)
          refine WL.op (d := 78) (.bool true) (k := ?_)
          refine WL.op (d := 79) (.bool true) (k := ?_)
          refine WL.op (d := 80) (.bool false) (k := ?_)
          refine WL.op (d := 81) (.bool false) (k := ?_)
          refine WL.op (d := 82) (.bool false) (k := ?_)
          refine WL.skip (d := 83) (k := ?_)
          refine WL.skip (d := 84) (k := ?_)
          refine WL.op (d := 85) (.bool false) (k := ?_)
          refine WL.op (d := 86) (.bool false) (k := ?_)
          refine WL.skip (d := 87) (k := ?_)
          refine WL.skip (d := 88) (k := ?_)
          refine WL.skip (d := 89) (k := ?_)
          refine WL.op (d := 90) (.bool false) (k := ?_)
          refine WL.op (d := 91) (.bool false) (k := ?_)
          refine WL.skip (d := 92) (k := ?_)
          refine WL.skip (d := 93) (k := ?_)
          refine WL.skip (d := 94) (k := ?_)
          refine WL.op (d := 95) (.bool false) (k := ?_)
          refine WL.op (d := 96) (.bool false) (k := ?_)
          refine WL.skip (d := 97) (k := ?_)
          refine WL.skip (d := 98) (k := ?_)
          refine WL.skip (d := 99) (k := ?_)
          refine WL.op (d := 100) (.bool false) (k := ?_)
          refine WL.op (d := 101) (.bool false) (k := ?_)
          refine WL.skip (d := 102) (k := ?_)
          refine WL.skip (d := 103) (k := ?_)
          refine WL.skip (d := 104) (k := ?_)
          refine WL.op (d := 105) (.bool false) (k := ?_)
          refine WL.op (d := 106) (.bool false) (k := ?_)
          refine WL.skip (d := 107) (k := ?_)
          refine WL.skip (d := 108) (k := ?_)
          refine WL.skip (d := 109) (k := ?_)
          refine WL.op (d := 110) (.bool false) (k := ?_)
          refine WL.op (d := 4) (.bool false) (k := ?_)
          refine WL.nil ?_
          refine WX.seqN ?_
          refine WC.ret ?_
          refine WX.ret (rs := [.tmp 4]) [.bool false] (.bool false) ⟨(by kernel_rfl), trivial⟩ (k := ?_)
          exfalso; first | omega | (simp at *; done) | (simp at *; omega)
      · have ph43 := of_decide_eq_false h43
        refine WL.rw (t := 43) (v := .bool false) (congrArg Value.bool h43) (k := ?_)
        refine WL.skip (d := 44) (k := ?_)
        refine WL.skip (d := 45) (k := ?_)
        refine WL.skip (d := 46) (k := ?_)
        refine WL.skip (d := 47) (k := ?_)
        refine WL.op (d := 48) (.bool false) (k := ?_)
        refine WL.op (d := 12) (.bool false) (k := ?_)
        refine WL.nil ?_
        refine WX.seqN ?_
        refine WC.seq ?_
        refine WC.region ?_
        refine WL.op (d := 13) (.pointer none) (k := ?_)
        refine WL.nil ?_
        refine WX.seqN ?_
        refine WC.seq ?_
        refine WC.region ?_
        refine WL.op (d := 49) (.int .i64 12) (k := ?_)
        refine WL.op (d := 50) (.bool false) (k := ?_)
        refine WL.op (d := 51) (.bool false) (k := ?_)
        refine WL.skip (d := 52) (k := ?_)
        refine WL.skip (d := 53) (k := ?_)
        refine WL.op (d := 54) (.bool false) (k := ?_)
        refine WL.op (d := 55) (.bool false) (k := ?_)
        refine WL.skip (d := 56) (k := ?_)
        refine WL.skip (d := 57) (k := ?_)
        refine WL.op (d := 58) (.bool false) (k := ?_)
        refine WL.op (d := 14) (.bool false) (k := ?_)
        refine WL.nil ?_
        refine WX.seqN ?_
        refine WC.seq ?_
        refine WC.seq ?_
        refine WC.region ?_
        refine WL.op (d := 59) (.bool false) (k := ?_)
        refine WL.nil ?_
        refine WX.seqN ?_
        refine WC.condF (k := ?_)
        refine WC.skip ?_
        refine WX.seqN ?_
        refine WC.seq ?_
        refine WC.region ?_
        refine WL.callG (d := 71) (f := 10) (args := #[.pointer none, .int .i64 1, .string ⟨#[]⟩]) (jnFormat_nil (k := 1) (l := []) (by omega) (by omega) w34) (k := fun e_ w63 h_ => ⟨.tuple #[.pointer none, .int .i64 1], h_.1, ?_⟩)
        have k64 := h_.2; clear h_
        replace hb32 := k64.heap hb32 id
        replace K := K.trans (k64.any _)
        refine WL.op (d := 70) (.tuple #[.pointer none, .int .i64 1]) (k := ?_)
        refine WL.op (d := 72) (.pointer none) (k := ?_)
        refine WL.op (d := 73) (.int .i64 1) (k := ?_)
        refine WL.op (d := 15) (.pointer none) (k := ?_)
        refine WL.op (d := 16) (.int .i64 1) (k := ?_)
        refine WL.nil ?_
        refine WX.seqN ?_
        refine WC.seq ?_
        refine WC.region ?_
        refine WL.callG (d := 74) (f := 8) (args := #[]) (l08awake_c w63) (k := fun e_ w65 h_ => ⟨.bool true, h_.1, ?_⟩)
        have k66 := h_.2; clear h_
        replace hb32 := k66.heap hb32 id
        replace K := K.trans (k66.any _)
        refine WL.op (d := 75) (.bool true) (k := ?_)
        refine WL.op (d := 76) (.pointer none) (k := ?_)
        refine WL.op (d := 77) (.bool true) (k := ?_)
        refine WL.op (d := 78) (.bool true) (k := ?_)
        refine WL.op (d := 79) (.bool true) (k := ?_)
        refine WL.op (d := 80) (.bool false) (k := ?_)
        refine WL.op (d := 81) (.bool false) (k := ?_)
        refine WL.op (d := 82) (.bool false) (k := ?_)
        refine WL.skip (d := 83) (k := ?_)
        refine WL.skip (d := 84) (k := ?_)
        refine WL.op (d := 85) (.bool false) (k := ?_)
        refine WL.op (d := 86) (.bool false) (k := ?_)
        refine WL.skip (d := 87) (k := ?_)
        refine WL.skip (d := 88) (k := ?_)
        refine WL.skip (d := 89) (k := ?_)
        refine WL.op (d := 90) (.bool false) (k := ?_)
        refine WL.op (d := 91) (.bool false) (k := ?_)
        refine WL.skip (d := 92) (k := ?_)
        refine WL.skip (d := 93) (k := ?_)
        refine WL.skip (d := 94) (k := ?_)
        refine WL.op (d := 95) (.bool false) (k := ?_)
        refine WL.op (d := 96) (.bool false) (k := ?_)
        refine WL.skip (d := 97) (k := ?_)
        refine WL.skip (d := 98) (k := ?_)
        refine WL.skip (d := 99) (k := ?_)
        refine WL.op (d := 100) (.bool false) (k := ?_)
        refine WL.op (d := 101) (.bool false) (k := ?_)
        refine WL.skip (d := 102) (k := ?_)
        refine WL.skip (d := 103) (k := ?_)
        refine WL.skip (d := 104) (k := ?_)
        refine WL.op (d := 105) (.bool false) (k := ?_)
        refine WL.op (d := 106) (.bool false) (k := ?_)
        refine WL.skip (d := 107) (k := ?_)
        refine WL.skip (d := 108) (k := ?_)
        refine WL.skip (d := 109) (k := ?_)
        refine WL.op (d := 110) (.bool false) (k := ?_)
        refine WL.op (d := 4) (.bool false) (k := ?_)
        refine WL.nil ?_
        refine WX.seqN ?_
        refine WC.ret ?_
        refine WX.ret (rs := [.tmp 4]) [.bool false] (.bool false) ⟨(by kernel_rfl), trivial⟩ (k := ?_)
        exfalso; first | omega | (simp at *; done) | (simp at *; omega)
    · have ph42 := of_decide_eq_false h42
      refine WL.rw (t := 39) (v := .bool false) (congrArg Value.bool h42) (k := ?_)
      refine WL.skip (d := 40) (k := ?_)
      refine WL.skip (d := 41) (k := ?_)
      refine WL.op (d := 42) (.bool false) (k := ?_)
      refine WL.op (d := 43) (.bool false) (k := ?_)
      refine WL.skip (d := 44) (k := ?_)
      refine WL.skip (d := 45) (k := ?_)
      refine WL.skip (d := 46) (k := ?_)
      refine WL.skip (d := 47) (k := ?_)
      refine WL.op (d := 48) (.bool false) (k := ?_)
      refine WL.op (d := 12) (.bool false) (k := ?_)
      refine WL.nil ?_
      refine WX.seqN ?_
      refine WC.seq ?_
      refine WC.region ?_
      refine WL.op (d := 13) (.pointer none) (k := ?_)
      refine WL.nil ?_
      refine WX.seqN ?_
      refine WC.seq ?_
      refine WC.region ?_
      refine WL.op (d := 49) (.int .i64 12) (k := ?_)
      refine WL.op (d := 50) (.bool false) (k := ?_)
      refine WL.op (d := 51) (.bool false) (k := ?_)
      refine WL.skip (d := 52) (k := ?_)
      refine WL.skip (d := 53) (k := ?_)
      refine WL.op (d := 54) (.bool false) (k := ?_)
      refine WL.op (d := 55) (.bool false) (k := ?_)
      refine WL.skip (d := 56) (k := ?_)
      refine WL.skip (d := 57) (k := ?_)
      refine WL.op (d := 58) (.bool false) (k := ?_)
      refine WL.op (d := 14) (.bool false) (k := ?_)
      refine WL.nil ?_
      refine WX.seqN ?_
      refine WC.seq ?_
      refine WC.seq ?_
      refine WC.region ?_
      refine WL.op (d := 59) (.bool false) (k := ?_)
      refine WL.nil ?_
      refine WX.seqN ?_
      refine WC.condF (k := ?_)
      refine WC.skip ?_
      refine WX.seqN ?_
      refine WC.seq ?_
      refine WC.region ?_
      refine WL.callG (d := 71) (f := 10) (args := #[.pointer none, .int .i64 1, .string ⟨#[]⟩]) (jnFormat_nil (k := 1) (l := []) (by omega) (by omega) w34) (k := fun e_ w67 h_ => ⟨.tuple #[.pointer none, .int .i64 1], h_.1, ?_⟩)
      have k68 := h_.2; clear h_
      replace hb32 := k68.heap hb32 id
      replace K := K.trans (k68.any _)
      refine WL.op (d := 70) (.tuple #[.pointer none, .int .i64 1]) (k := ?_)
      refine WL.op (d := 72) (.pointer none) (k := ?_)
      refine WL.op (d := 73) (.int .i64 1) (k := ?_)
      refine WL.op (d := 15) (.pointer none) (k := ?_)
      refine WL.op (d := 16) (.int .i64 1) (k := ?_)
      refine WL.nil ?_
      refine WX.seqN ?_
      refine WC.seq ?_
      refine WC.region ?_
      refine WL.callG (d := 74) (f := 8) (args := #[]) (l08awake_c w67) (k := fun e_ w69 h_ => ⟨.bool true, h_.1, ?_⟩)
      have k70 := h_.2; clear h_
      replace hb32 := k70.heap hb32 id
      replace K := K.trans (k70.any _)
      refine WL.op (d := 75) (.bool true) (k := ?_)
      refine WL.op (d := 76) (.pointer none) (k := ?_)
      refine WL.op (d := 77) (.bool true) (k := ?_)
      refine WL.op (d := 78) (.bool true) (k := ?_)
      refine WL.op (d := 79) (.bool true) (k := ?_)
      refine WL.op (d := 80) (.bool false) (k := ?_)
      refine WL.op (d := 81) (.bool false) (k := ?_)
      refine WL.op (d := 82) (.bool false) (k := ?_)
      refine WL.skip (d := 83) (k := ?_)
      refine WL.skip (d := 84) (k := ?_)
      refine WL.op (d := 85) (.bool false) (k := ?_)
      refine WL.op (d := 86) (.bool false) (k := ?_)
      refine WL.skip (d := 87) (k := ?_)
      refine WL.skip (d := 88) (k := ?_)
      refine WL.skip (d := 89) (k := ?_)
      refine WL.op (d := 90) (.bool false) (k := ?_)
      refine WL.op (d := 91) (.bool false) (k := ?_)
      refine WL.skip (d := 92) (k := ?_)
      refine WL.skip (d := 93) (k := ?_)
      refine WL.skip (d := 94) (k := ?_)
      refine WL.op (d := 95) (.bool false) (k := ?_)
      refine WL.op (d := 96) (.bool false) (k := ?_)
      refine WL.skip (d := 97) (k := ?_)
      refine WL.skip (d := 98) (k := ?_)
      refine WL.skip (d := 99) (k := ?_)
      refine WL.op (d := 100) (.bool false) (k := ?_)
      refine WL.op (d := 101) (.bool false) (k := ?_)
      refine WL.skip (d := 102) (k := ?_)
      refine WL.skip (d := 103) (k := ?_)
      refine WL.skip (d := 104) (k := ?_)
      refine WL.op (d := 105) (.bool false) (k := ?_)
      refine WL.op (d := 106) (.bool false) (k := ?_)
      refine WL.skip (d := 107) (k := ?_)
      refine WL.skip (d := 108) (k := ?_)
      refine WL.skip (d := 109) (k := ?_)
      refine WL.op (d := 110) (.bool false) (k := ?_)
      refine WL.op (d := 4) (.bool false) (k := ?_)
      refine WL.nil ?_
      refine WX.seqN ?_
      refine WC.ret ?_
      refine WX.ret (rs := [.tmp 4]) [.bool false] (.bool false) ⟨(by kernel_rfl), trivial⟩ (k := ?_)
      exfalso; first | omega | (simp at *; done) | (simp at *; omega)
  · have ph16 := of_decide_eq_false h16
    refine WL.callG (d := 27) (f := 13) (args := #[.pointer (some ⟨b8, 0, none⟩), .int .i64 k]) (jnOpen_arg (k := k) hd11 (by omega) (by rw [show ((GDisk.zero m).secs.length : Int) = (m : Int) from by simp [GDisk.zero]]; exact ph16)) (k := fun e_ w71 h_ => ⟨.tuple #[.pointer none, .agg #[.string ⟨#[]⟩, .slice none 0 0], .int .i64 1], h_.1, ?_⟩)
    have k72 := h_.2; clear h_
    replace hd11 := hd11.adds k72
    replace K := K.trans (k72.any _)
    refine WL.op (d := 24) (.tuple #[.pointer none, .agg #[.string ⟨#[]⟩, .slice none 0 0], .int .i64 1]) (k := ?_)
    refine WL.op (d := 28) (.pointer none) (k := ?_)
    refine WL.op (d := 29) (.agg #[.string ⟨#[]⟩, .slice none 0 0]) (k := ?_)
    refine WL.op (d := 30) (.int .i64 1) (k := ?_)
    refine WL.new (d := 8) (T := 33) #[.string ⟨#[]⟩, .slice none 0 0] (k := fun b73 w74 g75 hb76 k77 => ?_)
    have z78 := Nat.le_trans K.size g75
    have n79 : ¬ S9 b73 := fun h => absurd (hd11.lt _ h) (Nat.not_lt.2 g75)
    replace hd11 := hd11.adds k77
    replace K := K.trans (k77.any _)
    refine WL.op (d := 7) (.pointer none) (k := ?_)
    refine WL.store (v := .agg #[.string ⟨#[]⟩, .slice none 0 0]) (i := 0) (cs' := #[.string ⟨#[]⟩, .slice none 0 0]) hb76 (k := fun w80 hb81 k82 => ?_)
    replace hd11 := hd11.keeps k82 (fun i hi e => n79 (e ▸ hi))
    replace K := K.trans' k82 (fun i hi e => absurd (e ▸ hi) (Nat.not_lt.2 z78))
    clear hb76
    refine WL.op (d := 9) (.int .i64 1) (k := ?_)
    refine WL.nil ?_
    refine WX.seqN ?_
    refine WC.seq ?_
    refine WC.region ?_
    refine WL.op (d := 32) (.pointer (some ⟨b8, 0, none⟩)) (k := ?_)
    refine WL.op (d := 33) (.int .i64 k) (k := ?_)
    refine WL.callG (d := 34) (f := 10) (args := #[.pointer (some ⟨b8, 0, none⟩), .int .i64 k, .string ⟨#[]⟩]) (jnFormat_no (k := k) (l := []) hd11 (by omega) (by rw [show ((GDisk.zero m).secs.length : Int) = (m : Int) from by simp [GDisk.zero]]; exact ph16)) (k := fun e_ w83 h_ => ⟨.tuple #[.pointer none, .int .i64 1], h_.1, ?_⟩)
    have k84 := h_.2; clear h_
    replace hd11 := hd11.adds k84
    replace hb81 := k84.heap hb81 id
    replace K := K.trans (k84.any _)
    refine WL.op (d := 31) (.tuple #[.pointer none, .int .i64 1]) (k := ?_)
    refine WL.op (d := 35) (.pointer none) (k := ?_)
    refine WL.op (d := 36) (.int .i64 1) (k := ?_)
    refine WL.op (d := 10) (.pointer none) (k := ?_)
    refine WL.op (d := 11) (.int .i64 1) (k := ?_)
    refine WL.nil ?_
    refine WX.seqN ?_
    refine WC.seq ?_
    refine WC.region ?_
    refine WL.op (d := 37) (.int .i64 k) (k := ?_)
    refine WL.op (d := 38) (.bool (decide (k ≥ 1))) (k := ?_)
    refine WL.op (d := 39) (.bool (decide (k ≥ 1))) (k := ?_)
    refine bsplit (decide (k ≥ 1)) (fun h85 => ?_) (fun h85 => ?_)
    · have ph85 := of_decide_eq_true h85
      refine WL.rw (t := 39) (v := .bool true) (congrArg Value.bool h85) (k := ?_)
      refine WL.op (d := 40) (.int .i64 k) (k := ?_)
      refine WL.op (d := 41) (.bool (decide (k ≤ 64))) (k := ?_)
      refine WL.op (d := 42) (.bool (decide (k ≤ 64))) (k := ?_)
      refine WL.op (d := 43) (.bool (decide (k ≤ 64))) (k := ?_)
      refine bsplit (decide (k ≤ 64)) (fun h86 => ?_) (fun h86 => ?_)
      · have ph86 := of_decide_eq_true h86
        refine WL.rw (t := 43) (v := .bool true) (congrArg Value.bool h86) (k := ?_)
        refine WL.op (d := 44) (.int .i64 (m : Int)) (k := ?_)
        refine WL.op (d := 45) (.int .i64 k) (k := ?_)
        refine WL.opE (d := 46) (.int .i64 (IntKind.i64.wrap (2 * k))) (v := .int .i64 (2 * k)) (congrArg (Value.int .i64) (IntWalk.i64_in _ (by omega))) (k := ?_)
        refine WL.op (d := 47) (.bool (decide ((m : Int) > (2 * k)))) (k := ?_)
        refine WL.op (d := 48) (.bool (decide ((m : Int) > (2 * k)))) (k := ?_)
        refine WL.op (d := 12) (.bool (decide ((m : Int) > (2 * k)))) (k := ?_)
        refine WL.nil ?_
        refine WX.seqN ?_
        refine WC.seq ?_
        refine WC.region ?_
        refine WL.op (d := 13) (.pointer none) (k := ?_)
        refine WL.nil ?_
        refine WX.seqN ?_
        refine WC.seq ?_
        refine WC.region ?_
        refine WL.op (d := 49) (.int .i64 1) (k := ?_)
        refine WL.op (d := 50) (.bool true) (k := ?_)
        refine WL.op (d := 51) (.bool true) (k := ?_)
        refine WL.op (d := 52) (.int .i64 1) (k := ?_)
        refine WL.op (d := 53) (.bool true) (k := ?_)
        refine WL.op (d := 54) (.bool true) (k := ?_)
        refine WL.op (d := 55) (.bool true) (k := ?_)
        refine WL.op (d := 56) (.pointer none) (k := ?_)
        refine WL.op (d := 57) (.bool true) (k := ?_)
        refine WL.op (d := 58) (.bool true) (k := ?_)
        refine WL.op (d := 14) (.bool true) (k := ?_)
        refine WL.nil ?_
        refine WX.seqN ?_
        refine WC.seq ?_
        refine WC.seq ?_
        refine WC.region ?_
        refine WL.op (d := 59) (.bool (decide ((m : Int) > (2 * k)))) (k := ?_)
        refine WL.nil ?_
        refine WX.seqN ?_
        refine WC.cond (b := decide ((m : Int) > (2 * k))) (ht := fun h87 => ?_) (hf := fun h87 => ?_)
        · have ph87 := of_decide_eq_true h87
          refine WC.region ?_
          refine WL.op (d := 60) (.int .i64 1) (k := ?_)
          refine WL.op (d := 61) (.bool false) (k := ?_)
          refine WL.op (d := 62) (.bool false) (k := ?_)
          refine WL.skip (d := 63) (k := ?_)
          refine WL.skip (d := 64) (k := ?_)
          refine WL.op (d := 65) (.bool false) (k := ?_)
          refine WL.op (d := 66) (.bool false) (k := ?_)
          refine WL.skip (d := 67) (k := ?_)
          refine WL.skip (d := 68) (k := ?_)
          refine WL.op (d := 69) (.bool false) (k := ?_)
          refine WL.op (d := 14) (.bool false) (k := ?_)
          refine WL.nil ?_
          refine WX.seqN ?_
          refine WC.seq ?_
          refine WC.region ?_
          refine WL.callG (d := 71) (f := 10) (args := #[.pointer none, .int .i64 1, .string ⟨#[]⟩]) (jnFormat_nil (k := 1) (l := []) (by omega) (by omega) w83) (k := fun e_ w88 h_ => ⟨.tuple #[.pointer none, .int .i64 1], h_.1, ?_⟩)
          have k89 := h_.2; clear h_
          replace hd11 := hd11.adds k89
          replace hb81 := k89.heap hb81 id
          replace K := K.trans (k89.any _)
          refine WL.op (d := 70) (.tuple #[.pointer none, .int .i64 1]) (k := ?_)
          refine WL.op (d := 72) (.pointer none) (k := ?_)
          refine WL.op (d := 73) (.int .i64 1) (k := ?_)
          refine WL.op (d := 15) (.pointer none) (k := ?_)
          refine WL.op (d := 16) (.int .i64 1) (k := ?_)
          refine WL.nil ?_
          refine WX.seqN ?_
          refine WC.seq ?_
          refine WC.region ?_
          refine WL.callG (d := 74) (f := 8) (args := #[]) (l08awake_c w88) (k := fun e_ w90 h_ => ⟨.bool true, h_.1, ?_⟩)
          have k91 := h_.2; clear h_
          replace hd11 := hd11.adds k91
          replace hb81 := k91.heap hb81 id
          replace K := K.trans (k91.any _)
          refine WL.op (d := 75) (.bool true) (k := ?_)
          refine WL.op (d := 76) (.pointer none) (k := ?_)
          refine WL.op (d := 77) (.bool true) (k := ?_)
          refine WL.op (d := 78) (.bool true) (k := ?_)
          refine WL.op (d := 79) (.bool true) (k := ?_)
          refine WL.op (d := 80) (.bool false) (k := ?_)
          refine WL.op (d := 81) (.bool false) (k := ?_)
          refine WL.op (d := 82) (.bool false) (k := ?_)
          refine WL.skip (d := 83) (k := ?_)
          refine WL.skip (d := 84) (k := ?_)
          refine WL.op (d := 85) (.bool false) (k := ?_)
          refine WL.op (d := 86) (.bool false) (k := ?_)
          refine WL.skip (d := 87) (k := ?_)
          refine WL.skip (d := 88) (k := ?_)
          refine WL.skip (d := 89) (k := ?_)
          refine WL.op (d := 90) (.bool false) (k := ?_)
          refine WL.op (d := 91) (.bool false) (k := ?_)
          refine WL.skip (d := 92) (k := ?_)
          refine WL.skip (d := 93) (k := ?_)
          refine WL.skip (d := 94) (k := ?_)
          refine WL.op (d := 95) (.bool false) (k := ?_)
          refine WL.op (d := 96) (.bool false) (k := ?_)
          refine WL.skip (d := 97) (k := ?_)
          refine WL.skip (d := 98) (k := ?_)
          refine WL.skip (d := 99) (k := ?_)
          refine WL.op (d := 100) (.bool false) (k := ?_)
          refine WL.op (d := 101) (.bool false) (k := ?_)
          refine WL.skip (d := 102) (k := ?_)
          refine WL.skip (d := 103) (k := ?_)
          refine WL.skip (d := 104) (k := ?_)
          refine WL.op (d := 105) (.bool false) (k := ?_)
          refine WL.op (d := 106) (.bool false) (k := ?_)
          refine WL.skip (d := 107) (k := ?_)
          refine WL.skip (d := 108) (k := ?_)
          refine WL.skip (d := 109) (k := ?_)
          refine WL.op (d := 110) (.bool false) (k := ?_)
          refine WL.op (d := 4) (.bool false) (k := ?_)
          refine WL.nil ?_
          refine WX.seqN ?_
          refine WC.ret ?_
          refine WX.ret (rs := [.tmp 4]) [.bool false] (.bool false) ⟨(by kernel_rfl), trivial⟩ (k := ?_)
          exfalso; first | omega | (simp at *; done) | (simp at *; omega)
        · have ph87 := of_decide_eq_false h87
          refine WC.skip ?_
          refine WX.seqN ?_
          refine WC.seq ?_
          refine WC.region ?_
          refine WL.callG (d := 71) (f := 10) (args := #[.pointer none, .int .i64 1, .string ⟨#[]⟩]) (jnFormat_nil (k := 1) (l := []) (by omega) (by omega) w83) (k := fun e_ w92 h_ => ⟨.tuple #[.pointer none, .int .i64 1], h_.1, ?_⟩)
          have k93 := h_.2; clear h_
          replace hd11 := hd11.adds k93
          replace hb81 := k93.heap hb81 id
          replace K := K.trans (k93.any _)
          refine WL.op (d := 70) (.tuple #[.pointer none, .int .i64 1]) (k := ?_)
          refine WL.op (d := 72) (.pointer none) (k := ?_)
          refine WL.op (d := 73) (.int .i64 1) (k := ?_)
          refine WL.op (d := 15) (.pointer none) (k := ?_)
          refine WL.op (d := 16) (.int .i64 1) (k := ?_)
          refine WL.nil ?_
          refine WX.seqN ?_
          refine WC.seq ?_
          refine WC.region ?_
          refine WL.callG (d := 74) (f := 8) (args := #[]) (l08awake_c w92) (k := fun e_ w94 h_ => ⟨.bool true, h_.1, ?_⟩)
          have k95 := h_.2; clear h_
          replace hd11 := hd11.adds k95
          replace hb81 := k95.heap hb81 id
          replace K := K.trans (k95.any _)
          refine WL.op (d := 75) (.bool true) (k := ?_)
          refine WL.op (d := 76) (.pointer none) (k := ?_)
          refine WL.op (d := 77) (.bool true) (k := ?_)
          refine WL.op (d := 78) (.bool true) (k := ?_)
          refine WL.op (d := 79) (.bool true) (k := ?_)
          refine WL.op (d := 80) (.bool true) (k := ?_)
          refine WL.op (d := 81) (.bool true) (k := ?_)
          refine WL.op (d := 82) (.bool true) (k := ?_)
          refine WL.op (d := 83) (.int .i64 1) (k := ?_)
          refine WL.op (d := 84) (.bool true) (k := ?_)
          refine WL.op (d := 85) (.bool true) (k := ?_)
          refine WL.op (d := 86) (.bool true) (k := ?_)
          refine WL.op (d := 87) (.pointer none) (k := ?_)
          refine WL.callG (d := 88) (f := 11) (args := #[.pointer none, .string ⟨#[]⟩]) (jnApp_nil (l := []) w94) (k := fun e_ w96 h_ => ⟨.int .i64 1, h_.1, ?_⟩)
          have k97 := h_.2; clear h_
          replace hd11 := hd11.adds k97
          replace hb81 := k97.heap hb81 id
          replace K := K.trans (k97.any _)
          refine WL.op (d := 89) (.bool true) (k := ?_)
          refine WL.op (d := 90) (.bool true) (k := ?_)
          refine WL.op (d := 91) (.bool true) (k := ?_)
          refine WL.op (d := 92) (.pointer none) (k := ?_)
          refine WL.callG (d := 93) (f := 18) (args := #[.pointer none, .string ⟨#[]⟩]) (jnSnap_nil (l := []) w96) (k := fun e_ w98 h_ => ⟨.int .i64 1, h_.1, ?_⟩)
          have k99 := h_.2; clear h_
          replace hd11 := hd11.adds k99
          replace hb81 := k99.heap hb81 id
          replace K := K.trans (k99.any _)
          refine WL.op (d := 94) (.bool true) (k := ?_)
          refine WL.op (d := 95) (.bool true) (k := ?_)
          refine WL.op (d := 96) (.bool true) (k := ?_)
          refine WL.op (d := 97) (.pointer none) (k := ?_)
          refine WL.callG (d := 98) (f := 20) (args := #[.pointer none]) (jnLeft_nil w98) (k := fun e_ w100 h_ => ⟨.int .i64 0, h_.1, ?_⟩)
          have k101 := h_.2; clear h_
          replace hd11 := hd11.adds k101
          replace hb81 := k101.heap hb81 id
          replace K := K.trans (k101.any _)
          refine WL.op (d := 99) (.bool true) (k := ?_)
          refine WL.op (d := 100) (.bool true) (k := ?_)
          refine WL.op (d := 101) (.bool true) (k := ?_)
          refine WL.op (d := 102) (.pointer none) (k := ?_)
          refine WL.callG (d := 103) (f := 19) (args := #[.pointer none]) (jnGood_nil w100) (k := fun e_ w102 h_ => ⟨.bool false, h_.1, ?_⟩)
          have k103 := h_.2; clear h_
          replace hd11 := hd11.adds k103
          replace hb81 := k103.heap hb81 id
          replace K := K.trans (k103.any _)
          refine WL.op (d := 104) (.bool true) (k := ?_)
          refine WL.op (d := 105) (.bool true) (k := ?_)
          refine WL.op (d := 106) (.bool true) (k := ?_)
          refine WL.op (d := 107) (.pointer none) (k := ?_)
          refine WL.callG (d := 108) (f := 16) (args := #[.pointer none]) (jnEpoch_nil w102) (k := fun e_ w104 h_ => ⟨.int .u64 0, h_.1, ?_⟩)
          have k105 := h_.2; clear h_
          replace hd11 := hd11.adds k105
          replace hb81 := k105.heap hb81 id
          replace K := K.trans (k105.any _)
          refine WL.op (d := 109) (.bool true) (k := ?_)
          refine WL.op (d := 110) (.bool true) (k := ?_)
          refine WL.op (d := 4) (.bool true) (k := ?_)
          refine WL.nil ?_
          refine WX.seqN ?_
          refine WC.ret ?_
          refine WX.ret (rs := [.tmp 4]) [.bool true] (.bool true) ⟨(by kernel_rfl), trivial⟩ (k := ?_)
          exact ⟨rfl, K⟩
      · have ph86 := of_decide_eq_false h86
        refine WL.rw (t := 43) (v := .bool false) (congrArg Value.bool h86) (k := ?_)
        refine WL.skip (d := 44) (k := ?_)
        refine WL.skip (d := 45) (k := ?_)
        refine WL.skip (d := 46) (k := ?_)
        refine WL.skip (d := 47) (k := ?_)
        refine WL.op (d := 48) (.bool false) (k := ?_)
        refine WL.op (d := 12) (.bool false) (k := ?_)
        refine WL.nil ?_
        refine WX.seqN ?_
        refine WC.seq ?_
        refine WC.region ?_
        refine WL.op (d := 13) (.pointer none) (k := ?_)
        refine WL.nil ?_
        refine WX.seqN ?_
        refine WC.seq ?_
        refine WC.region ?_
        refine WL.op (d := 49) (.int .i64 1) (k := ?_)
        refine WL.op (d := 50) (.bool true) (k := ?_)
        refine WL.op (d := 51) (.bool true) (k := ?_)
        refine WL.op (d := 52) (.int .i64 1) (k := ?_)
        refine WL.op (d := 53) (.bool true) (k := ?_)
        refine WL.op (d := 54) (.bool true) (k := ?_)
        refine WL.op (d := 55) (.bool true) (k := ?_)
        refine WL.op (d := 56) (.pointer none) (k := ?_)
        refine WL.op (d := 57) (.bool true) (k := ?_)
        refine WL.op (d := 58) (.bool true) (k := ?_)
        refine WL.op (d := 14) (.bool true) (k := ?_)
        refine WL.nil ?_
        refine WX.seqN ?_
        refine WC.seq ?_
        refine WC.seq ?_
        refine WC.region ?_
        refine WL.op (d := 59) (.bool false) (k := ?_)
        refine WL.nil ?_
        refine WX.seqN ?_
        refine WC.condF (k := ?_)
        refine WC.skip ?_
        refine WX.seqN ?_
        refine WC.seq ?_
        refine WC.region ?_
        refine WL.callG (d := 71) (f := 10) (args := #[.pointer none, .int .i64 1, .string ⟨#[]⟩]) (jnFormat_nil (k := 1) (l := []) (by omega) (by omega) w83) (k := fun e_ w106 h_ => ⟨.tuple #[.pointer none, .int .i64 1], h_.1, ?_⟩)
        have k107 := h_.2; clear h_
        replace hd11 := hd11.adds k107
        replace hb81 := k107.heap hb81 id
        replace K := K.trans (k107.any _)
        refine WL.op (d := 70) (.tuple #[.pointer none, .int .i64 1]) (k := ?_)
        refine WL.op (d := 72) (.pointer none) (k := ?_)
        refine WL.op (d := 73) (.int .i64 1) (k := ?_)
        refine WL.op (d := 15) (.pointer none) (k := ?_)
        refine WL.op (d := 16) (.int .i64 1) (k := ?_)
        refine WL.nil ?_
        refine WX.seqN ?_
        refine WC.seq ?_
        refine WC.region ?_
        refine WL.callG (d := 74) (f := 8) (args := #[]) (l08awake_c w106) (k := fun e_ w108 h_ => ⟨.bool true, h_.1, ?_⟩)
        have k109 := h_.2; clear h_
        replace hd11 := hd11.adds k109
        replace hb81 := k109.heap hb81 id
        replace K := K.trans (k109.any _)
        refine WL.op (d := 75) (.bool true) (k := ?_)
        refine WL.op (d := 76) (.pointer none) (k := ?_)
        refine WL.op (d := 77) (.bool true) (k := ?_)
        refine WL.op (d := 78) (.bool true) (k := ?_)
        refine WL.op (d := 79) (.bool true) (k := ?_)
        refine WL.op (d := 80) (.bool true) (k := ?_)
        refine WL.op (d := 81) (.bool true) (k := ?_)
        refine WL.op (d := 82) (.bool true) (k := ?_)
        refine WL.op (d := 83) (.int .i64 1) (k := ?_)
        refine WL.op (d := 84) (.bool true) (k := ?_)
        refine WL.op (d := 85) (.bool true) (k := ?_)
        refine WL.op (d := 86) (.bool true) (k := ?_)
        refine WL.op (d := 87) (.pointer none) (k := ?_)
        refine WL.callG (d := 88) (f := 11) (args := #[.pointer none, .string ⟨#[]⟩]) (jnApp_nil (l := []) w108) (k := fun e_ w110 h_ => ⟨.int .i64 1, h_.1, ?_⟩)
        have k111 := h_.2; clear h_
        replace hd11 := hd11.adds k111
        replace hb81 := k111.heap hb81 id
        replace K := K.trans (k111.any _)
        refine WL.op (d := 89) (.bool true) (k := ?_)
        refine WL.op (d := 90) (.bool true) (k := ?_)
        refine WL.op (d := 91) (.bool true) (k := ?_)
        refine WL.op (d := 92) (.pointer none) (k := ?_)
        refine WL.callG (d := 93) (f := 18) (args := #[.pointer none, .string ⟨#[]⟩]) (jnSnap_nil (l := []) w110) (k := fun e_ w112 h_ => ⟨.int .i64 1, h_.1, ?_⟩)
        have k113 := h_.2; clear h_
        replace hd11 := hd11.adds k113
        replace hb81 := k113.heap hb81 id
        replace K := K.trans (k113.any _)
        refine WL.op (d := 94) (.bool true) (k := ?_)
        refine WL.op (d := 95) (.bool true) (k := ?_)
        refine WL.op (d := 96) (.bool true) (k := ?_)
        refine WL.op (d := 97) (.pointer none) (k := ?_)
        refine WL.callG (d := 98) (f := 20) (args := #[.pointer none]) (jnLeft_nil w112) (k := fun e_ w114 h_ => ⟨.int .i64 0, h_.1, ?_⟩)
        have k115 := h_.2; clear h_
        replace hd11 := hd11.adds k115
        replace hb81 := k115.heap hb81 id
        replace K := K.trans (k115.any _)
        refine WL.op (d := 99) (.bool true) (k := ?_)
        refine WL.op (d := 100) (.bool true) (k := ?_)
        refine WL.op (d := 101) (.bool true) (k := ?_)
        refine WL.op (d := 102) (.pointer none) (k := ?_)
        refine WL.callG (d := 103) (f := 19) (args := #[.pointer none]) (jnGood_nil w114) (k := fun e_ w116 h_ => ⟨.bool false, h_.1, ?_⟩)
        have k117 := h_.2; clear h_
        replace hd11 := hd11.adds k117
        replace hb81 := k117.heap hb81 id
        replace K := K.trans (k117.any _)
        refine WL.op (d := 104) (.bool true) (k := ?_)
        refine WL.op (d := 105) (.bool true) (k := ?_)
        refine WL.op (d := 106) (.bool true) (k := ?_)
        refine WL.op (d := 107) (.pointer none) (k := ?_)
        refine WL.callG (d := 108) (f := 16) (args := #[.pointer none]) (jnEpoch_nil w116) (k := fun e_ w118 h_ => ⟨.int .u64 0, h_.1, ?_⟩)
        have k119 := h_.2; clear h_
        replace hd11 := hd11.adds k119
        replace hb81 := k119.heap hb81 id
        replace K := K.trans (k119.any _)
        refine WL.op (d := 109) (.bool true) (k := ?_)
        refine WL.op (d := 110) (.bool true) (k := ?_)
        refine WL.op (d := 4) (.bool true) (k := ?_)
        refine WL.nil ?_
        refine WX.seqN ?_
        refine WC.ret ?_
        refine WX.ret (rs := [.tmp 4]) [.bool true] (.bool true) ⟨(by kernel_rfl), trivial⟩ (k := ?_)
        exact ⟨rfl, K⟩
    · have ph85 := of_decide_eq_false h85
      refine WL.rw (t := 39) (v := .bool false) (congrArg Value.bool h85) (k := ?_)
      refine WL.skip (d := 40) (k := ?_)
      refine WL.skip (d := 41) (k := ?_)
      refine WL.op (d := 42) (.bool false) (k := ?_)
      refine WL.op (d := 43) (.bool false) (k := ?_)
      refine WL.skip (d := 44) (k := ?_)
      refine WL.skip (d := 45) (k := ?_)
      refine WL.skip (d := 46) (k := ?_)
      refine WL.skip (d := 47) (k := ?_)
      refine WL.op (d := 48) (.bool false) (k := ?_)
      refine WL.op (d := 12) (.bool false) (k := ?_)
      refine WL.nil ?_
      refine WX.seqN ?_
      refine WC.seq ?_
      refine WC.region ?_
      refine WL.op (d := 13) (.pointer none) (k := ?_)
      refine WL.nil ?_
      refine WX.seqN ?_
      refine WC.seq ?_
      refine WC.region ?_
      refine WL.op (d := 49) (.int .i64 1) (k := ?_)
      refine WL.op (d := 50) (.bool true) (k := ?_)
      refine WL.op (d := 51) (.bool true) (k := ?_)
      refine WL.op (d := 52) (.int .i64 1) (k := ?_)
      refine WL.op (d := 53) (.bool true) (k := ?_)
      refine WL.op (d := 54) (.bool true) (k := ?_)
      refine WL.op (d := 55) (.bool true) (k := ?_)
      refine WL.op (d := 56) (.pointer none) (k := ?_)
      refine WL.op (d := 57) (.bool true) (k := ?_)
      refine WL.op (d := 58) (.bool true) (k := ?_)
      refine WL.op (d := 14) (.bool true) (k := ?_)
      refine WL.nil ?_
      refine WX.seqN ?_
      refine WC.seq ?_
      refine WC.seq ?_
      refine WC.region ?_
      refine WL.op (d := 59) (.bool false) (k := ?_)
      refine WL.nil ?_
      refine WX.seqN ?_
      refine WC.condF (k := ?_)
      refine WC.skip ?_
      refine WX.seqN ?_
      refine WC.seq ?_
      refine WC.region ?_
      refine WL.callG (d := 71) (f := 10) (args := #[.pointer none, .int .i64 1, .string ⟨#[]⟩]) (jnFormat_nil (k := 1) (l := []) (by omega) (by omega) w83) (k := fun e_ w120 h_ => ⟨.tuple #[.pointer none, .int .i64 1], h_.1, ?_⟩)
      have k121 := h_.2; clear h_
      replace hd11 := hd11.adds k121
      replace hb81 := k121.heap hb81 id
      replace K := K.trans (k121.any _)
      refine WL.op (d := 70) (.tuple #[.pointer none, .int .i64 1]) (k := ?_)
      refine WL.op (d := 72) (.pointer none) (k := ?_)
      refine WL.op (d := 73) (.int .i64 1) (k := ?_)
      refine WL.op (d := 15) (.pointer none) (k := ?_)
      refine WL.op (d := 16) (.int .i64 1) (k := ?_)
      refine WL.nil ?_
      refine WX.seqN ?_
      refine WC.seq ?_
      refine WC.region ?_
      refine WL.callG (d := 74) (f := 8) (args := #[]) (l08awake_c w120) (k := fun e_ w122 h_ => ⟨.bool true, h_.1, ?_⟩)
      have k123 := h_.2; clear h_
      replace hd11 := hd11.adds k123
      replace hb81 := k123.heap hb81 id
      replace K := K.trans (k123.any _)
      refine WL.op (d := 75) (.bool true) (k := ?_)
      refine WL.op (d := 76) (.pointer none) (k := ?_)
      refine WL.op (d := 77) (.bool true) (k := ?_)
      refine WL.op (d := 78) (.bool true) (k := ?_)
      refine WL.op (d := 79) (.bool true) (k := ?_)
      refine WL.op (d := 80) (.bool true) (k := ?_)
      refine WL.op (d := 81) (.bool true) (k := ?_)
      refine WL.op (d := 82) (.bool true) (k := ?_)
      refine WL.op (d := 83) (.int .i64 1) (k := ?_)
      refine WL.op (d := 84) (.bool true) (k := ?_)
      refine WL.op (d := 85) (.bool true) (k := ?_)
      refine WL.op (d := 86) (.bool true) (k := ?_)
      refine WL.op (d := 87) (.pointer none) (k := ?_)
      refine WL.callG (d := 88) (f := 11) (args := #[.pointer none, .string ⟨#[]⟩]) (jnApp_nil (l := []) w122) (k := fun e_ w124 h_ => ⟨.int .i64 1, h_.1, ?_⟩)
      have k125 := h_.2; clear h_
      replace hd11 := hd11.adds k125
      replace hb81 := k125.heap hb81 id
      replace K := K.trans (k125.any _)
      refine WL.op (d := 89) (.bool true) (k := ?_)
      refine WL.op (d := 90) (.bool true) (k := ?_)
      refine WL.op (d := 91) (.bool true) (k := ?_)
      refine WL.op (d := 92) (.pointer none) (k := ?_)
      refine WL.callG (d := 93) (f := 18) (args := #[.pointer none, .string ⟨#[]⟩]) (jnSnap_nil (l := []) w124) (k := fun e_ w126 h_ => ⟨.int .i64 1, h_.1, ?_⟩)
      have k127 := h_.2; clear h_
      replace hd11 := hd11.adds k127
      replace hb81 := k127.heap hb81 id
      replace K := K.trans (k127.any _)
      refine WL.op (d := 94) (.bool true) (k := ?_)
      refine WL.op (d := 95) (.bool true) (k := ?_)
      refine WL.op (d := 96) (.bool true) (k := ?_)
      refine WL.op (d := 97) (.pointer none) (k := ?_)
      refine WL.callG (d := 98) (f := 20) (args := #[.pointer none]) (jnLeft_nil w126) (k := fun e_ w128 h_ => ⟨.int .i64 0, h_.1, ?_⟩)
      have k129 := h_.2; clear h_
      replace hd11 := hd11.adds k129
      replace hb81 := k129.heap hb81 id
      replace K := K.trans (k129.any _)
      refine WL.op (d := 99) (.bool true) (k := ?_)
      refine WL.op (d := 100) (.bool true) (k := ?_)
      refine WL.op (d := 101) (.bool true) (k := ?_)
      refine WL.op (d := 102) (.pointer none) (k := ?_)
      refine WL.callG (d := 103) (f := 19) (args := #[.pointer none]) (jnGood_nil w128) (k := fun e_ w130 h_ => ⟨.bool false, h_.1, ?_⟩)
      have k131 := h_.2; clear h_
      replace hd11 := hd11.adds k131
      replace hb81 := k131.heap hb81 id
      replace K := K.trans (k131.any _)
      refine WL.op (d := 104) (.bool true) (k := ?_)
      refine WL.op (d := 105) (.bool true) (k := ?_)
      refine WL.op (d := 106) (.bool true) (k := ?_)
      refine WL.op (d := 107) (.pointer none) (k := ?_)
      refine WL.callG (d := 108) (f := 16) (args := #[.pointer none]) (jnEpoch_nil w130) (k := fun e_ w132 h_ => ⟨.int .u64 0, h_.1, ?_⟩)
      have k133 := h_.2; clear h_
      replace hd11 := hd11.adds k133
      replace hb81 := k133.heap hb81 id
      replace K := K.trans (k133.any _)
      refine WL.op (d := 109) (.bool true) (k := ?_)
      refine WL.op (d := 110) (.bool true) (k := ?_)
      refine WL.op (d := 4) (.bool true) (k := ?_)
      refine WL.nil ?_
      refine WX.seqN ?_
      refine WC.ret ?_
      refine WX.ret (rs := [.tmp 4]) [.bool true] (.bool true) ⟨(by kernel_rfl), trivial⟩ (k := ?_)
      exact ⟨rfl, K⟩
end Go.Proofs.YtnndkgmcjbnfbaaGreatDoor
