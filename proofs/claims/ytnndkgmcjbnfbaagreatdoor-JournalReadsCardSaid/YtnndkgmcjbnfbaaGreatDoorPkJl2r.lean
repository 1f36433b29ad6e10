/- Jl2r. -/
import Derived.Test.YtnndkgmcjbnfbaaGreatDoorPk6
import Derived.Test.YtnndkgmcjbnfbaaGreatDoorPkJl2
namespace Go.Proofs.YtnndkgmcjbnfbaaGreatDoor
open Go.RowKit
set_option linter.unusedVariables false
set_option linter.unusedSimpArgs false
set_option maxRecDepth 100000 in
set_option maxHeartbeats 4000000 in
theorem lJournalReads_c (x y : Int) (w : World) : Calls Tryz.prog 3 #[.int .i64 x, .int .i64 y] w fun e w' => e = .returned (.bool true) ∧ Adds w w' := by
  have K : Keeps (fun _ => False) w w := Keeps.refl _ w
  refine Calls.start Tryz.func3 rfl (by kernel_rfl) ?_
  refine WC.seq ?_
  refine WC.region ?_
  refine WL.op (d := 4) (.bool false) (k := ?_)
  refine WL.nil ?_
  refine WX.seqN ?_
  refine WC.seq ?_
  refine WC.region ?_
  refine WL.callG (d := 16) (f := 8) (args := #[]) (l08awake_c w) (k := fun e_ w1 h_ => ⟨.bool true, h_.1, ?_⟩)
  have k2 := h_.2; clear h_
  replace K := K.trans (k2.any _)
  refine WL.op (d := 5) (.bool true) (k := ?_)
  refine WL.nil ?_
  refine WX.seqN ?_
  refine WC.seq ?_
  refine WC.region ?_
  refine WL.callG (d := 17) (f := 9) (args := #[.int .i64 9]) (dNew_ok (n := 9) (by omega) (by omega) w1) (k := fun e_ w3 h_ => ?_)
  obtain ⟨b4, S5, rfl, g6, hd7, ho8, k9⟩ := h_
  refine ⟨_, rfl, ?_⟩
  have lk10 : ∀ k, S5 k → False ∨ w.heap.size ≤ k := fun k h => .inr (Nat.le_trans K.size (ho8 k h))
  have z11 := Nat.le_trans K.size g6
  replace K := K.trans (k9.any _)
  refine WL.op (d := 6) (.pointer (some ⟨b4, 0, none⟩)) (k := ?_)
  refine WL.nil ?_
  refine WX.seqN ?_
  refine WC.seq ?_
  refine WC.seq ?_
  refine WC.region ?_
  refine WL.op (d := 18) (.pointer (some ⟨b4, 0, none⟩)) (k := ?_)
  refine WL.op (d := 19) (.bool false) (k := ?_)
  refine WL.nil ?_
  refine WX.seqN ?_
  refine WC.condF (k := ?_)
  refine WC.skip ?_
  refine WX.seqN ?_
  refine WC.seq ?_
  refine WC.region ?_
  refine WL.op (d := 21) (.pointer (some ⟨b4, 0, none⟩)) (k := ?_)
  refine WL.callG (d := 22) (f := 10) (args := #[.pointer (some ⟨b4, 0, none⟩), .int .i64 2, .string ⟨#[120]⟩]) (jg_format (k := 2) (n := 5) (m := 9) (rd := 0) (l := [120]) (by omega) hd7 (by omega) (by omega) (by omega) (by omega) (by first | (simp; done) | (simp; omega))) (k := fun e_ w12 h_ => ?_)
  obtain ⟨jb13, rfl, S14, hd15, lk16, k17⟩ := h_
  refine ⟨_, rfl, ?_⟩
  have lk18 := lk_step lk10 lk16 K
  replace K := K.trans' k17 (fun i hi e => (lk10 i e).elim (fun h => h.elim) (fun h => absurd hi (Nat.not_lt.2 h)))
  clear hd7
  refine WL.op (d := 20) (.tuple #[.pointer (some ⟨jb13, 0, none⟩), .int .i64 0]) (k := ?_)
  refine WL.op (d := 23) (.pointer (some ⟨jb13, 0, none⟩)) (k := ?_)
  refine WL.op (d := 24) (.int .i64 0) (k := ?_)
  refine WL.op (d := 7) (.pointer (some ⟨jb13, 0, none⟩)) (k := ?_)
  refine WL.op (d := 8) (.int .i64 0) (k := ?_)
  refine WL.nil ?_
  refine WX.seqN ?_
  refine WC.seq ?_
  refine WC.seq ?_
  refine WC.region ?_
  refine WL.op (d := 25) (.int .i64 0) (k := ?_)
  refine WL.op (d := 26) (.bool false) (k := ?_)
  refine WL.nil ?_
  refine WX.seqN ?_
  refine WC.condF (k := ?_)
  refine WC.skip ?_
  refine WX.seqN ?_
  refine WC.seq ?_
  refine WC.region ?_
  refine WL.op (d := 27) (.int .i64 x) (k := ?_)
  refine WL.bin (d := 28) (v := .int .i64 (Int.tmod x 6)) (rem_run (by omega)) (k := ?_)
  have m19 := tmod_rng x 6 (by omega)
  obtain ⟨r20, e21⟩ : ∃ r : Int, Int.tmod x 6 = r := ⟨_, rfl⟩
  rw [e21] at m19
  refine WL.rw (t := 28) (v := .int .i64 r20) (congrArg (Value.int .i64) e21) (k := ?_)
  refine WL.opE (d := 29) (.int .i64 (IntKind.i64.wrap (r20 + 6))) (v := .int .i64 (r20 + 6)) (congrArg (Value.int .i64) (IntWalk.i64_in _ (by omega))) (k := ?_)
  refine WL.bin (d := 30) (v := .int .i64 (Int.tmod (r20 + 6) 6)) (rem_run (by omega)) (k := ?_)
  have m22 := tmod_rng (r20 + 6) 6 (by omega)
  obtain ⟨r23, e24⟩ : ∃ r : Int, Int.tmod (r20 + 6) 6 = r := ⟨_, rfl⟩
  rw [e24] at m22
  refine WL.rw (t := 30) (v := .int .i64 r23) (congrArg (Value.int .i64) e24) (k := ?_)
  refine WL.op (d := 9) (.int .i64 r23) (k := ?_)
  refine WL.nil ?_
  refine WX.seqN ?_
  refine WC.seq ?_
  refine WC.seq ?_
  refine WC.region ?_
  refine WL.op (d := 10) (.int .i64 0) (k := ?_)
  refine WL.nil ?_
  refine WX.seqN ?_
  refine WC.block ?_
  refine WC.loop (ι := Int × (List (List UInt8)) × (Nat → Prop)) (fun (⟨i, xs, Si⟩ : Int × (List (List UInt8)) × (Nat → Prop)) => [(0, .int .i64 x), (1, .int .i64 y), (4, .bool false), (16, .bool true), (5, .bool true), (17, .pointer (some ⟨b4, 0, none⟩)), (6, .pointer (some ⟨b4, 0, none⟩)), (18, .pointer (some ⟨b4, 0, none⟩)), (19, .bool false), (21, .pointer (some ⟨b4, 0, none⟩)), (22, .tuple #[.pointer (some ⟨jb13, 0, none⟩), .int .i64 0]), (20, .tuple #[.pointer (some ⟨jb13, 0, none⟩), .int .i64 0]), (23, .pointer (some ⟨jb13, 0, none⟩)), (24, .int .i64 0), (7, .pointer (some ⟨jb13, 0, none⟩)), (8, .int .i64 0), (25, .int .i64 0), (26, .bool false), (27, .int .i64 x), (28, .int .i64 r20), (29, .int .i64 (r20 + 6)), (30, .int .i64 r23), (9, .int .i64 r23), (10, .int .i64 i)]) (fun (⟨i, xs, Si⟩ : Int × (List (List UInt8)) × (Nat → Prop)) (w_ : World) => (Keeps (fun _ => False) w w_) ∧ (JgAt Si b4 (⟨2, 5, 1, jb13, 0, (rcN 0 (2 * 2)), 1, [120], xs⟩ : JG) w_) ∧ (∀ k, Si k → (fun _ => False) k ∨ w.heap.size ≤ k) ∧ (0 ≤ i) ∧ (i ≤ r23) ∧ ((xs.length : Int) = i)) (fun (⟨i, xs, Si⟩ : Int × (List (List UInt8)) × (Nat → Prop)) => (100 - i).toNat) (0, [], S14) ⟨(by kernel_rfl), (by kernel_rfl), (by kernel_rfl), (by kernel_rfl), (by kernel_rfl), (by kernel_rfl), (by kernel_rfl), (by kernel_rfl), (by kernel_rfl), (by kernel_rfl), (by kernel_rfl), (by kernel_rfl), (by kernel_rfl), (by kernel_rfl), (by kernel_rfl), (by kernel_rfl), (by kernel_rfl), (by kernel_rfl), (by kernel_rfl), (by kernel_rfl), (by kernel_rfl), (by kernel_rfl), (by kernel_rfl), (by kernel_rfl), trivial⟩ ⟨K, hd15, lk18, Int.le_refl 0, (by omega), (by simp)⟩ ?_
  rintro ⟨i, xs, Si⟩ w25 ⟨K, hb26, lk27, i0, i1, hx⟩
  have hc_ : xs.length ≤ 5 := hb26.cnt
  refine WC.seq ?_
  refine WC.seq ?_
  refine WC.region ?_
  refine WL.op (d := 31) (.int .i64 i) (k := ?_)
  refine WL.op (d := 32) (.int .i64 r23) (k := ?_)
  refine WL.op (d := 33) (.bool (decide (i < r23))) (k := ?_)
  refine WL.nil ?_
  refine WX.seqN ?_
  refine WC.cond (b := decide (i < r23)) (ht := fun h28 => ?_) (hf := fun h28 => ?_)
  · have ph28 := of_decide_eq_true h28
    refine WC.skip ?_
    refine WX.seqN ?_
    refine WC.seq ?_
    refine WC.block ?_
    refine WC.region ?_
    refine WL.op (d := 36) (.pointer (some ⟨jb13, 0, none⟩)) (k := ?_)
    refine bsplit (decide ((List.length xs) < 5)) (fun h29 => ?_) (fun h29 => ?_)
    · have ph29 := of_decide_eq_true h29
      refine WL.callG (d := 37) (f := 11) (args := #[.pointer (some ⟨jb13, 0, none⟩), .string ⟨#[114]⟩]) (jg_app (R := 0) (ys := xs ++ [[114]]) (l := [114]) hb26 (by first | omega | (simp; done)) (.inl ⟨ph29, rfl, rfl⟩)) (k := fun e_ w31 h_ => ?_)
      obtain ⟨rfl, S32, hd33, lk34, k35⟩ := h_
      refine ⟨_, rfl, ?_⟩
      have lk36 := lk_step lk27 lk34 K
      replace K := K.trans' k35 (fun i hi e => (lk27 i e).elim (fun h => h.elim) (fun h => absurd hi (Nat.not_lt.2 h)))
      clear hb26
      have la30 : List.length (xs ++ [[114]]) = List.length xs + 1 := by simp
      refine WL.nil ?_
      refine WX.blockN ?_
      refine WX.seqN ?_
      refine WC.region ?_
      refine WL.op (d := 34) (.int .i64 i) (k := ?_)
      refine WL.opE (d := 35) (.int .i64 (IntKind.i64.wrap (i + 1))) (v := .int .i64 (i + 1)) (congrArg (Value.int .i64) (IntWalk.i64_in _ (by omega))) (k := ?_)
      refine WL.op (d := 10) (.int .i64 (i + 1)) (k := ?_)
      refine WL.nil ?_
      refine WX.round (i + 1, xs ++ [[114]], S32) (by show (100 - (i + 1)).toNat < (100 - i).toNat; omega) ⟨(by kernel_rfl), (by kernel_rfl), (by kernel_rfl), (by kernel_rfl), (by kernel_rfl), (by kernel_rfl), (by kernel_rfl), (by kernel_rfl), (by kernel_rfl), (by kernel_rfl), (by kernel_rfl), (by kernel_rfl), (by kernel_rfl), (by kernel_rfl), (by kernel_rfl), (by kernel_rfl), (by kernel_rfl), (by kernel_rfl), (by kernel_rfl), (by kernel_rfl), (by kernel_rfl), (by kernel_rfl), (by kernel_rfl), (by kernel_rfl), trivial⟩ ⟨K, hd33, lk36, (by omega), (by omega), (by omega)⟩
    · have ph29 := of_decide_eq_false h29
      refine WL.callG (d := 37) (f := 11) (args := #[.pointer (some ⟨jb13, 0, none⟩), .string ⟨#[114]⟩]) (jg_app (R := 22) (ys := xs) (l := [114]) hb26 (by first | omega | (simp; done)) (.inr ⟨ph29, rfl, rfl⟩)) (k := fun e_ w37 h_ => ?_)
      obtain ⟨rfl, S38, hd39, lk40, k41⟩ := h_
      refine ⟨_, rfl, ?_⟩
      have lk42 := lk_step lk27 lk40 K
      replace K := K.trans' k41 (fun i hi e => (lk27 i e).elim (fun h => h.elim) (fun h => absurd hi (Nat.not_lt.2 h)))
      clear hb26
      refine WL.nil ?_
      refine WX.blockN ?_
      refine WX.seqN ?_
      refine WC.region ?_
      refine WL.op (d := 34) (.int .i64 i) (k := ?_)
      refine WL.opE (d := 35) (.int .i64 (IntKind.i64.wrap (i + 1))) (v := .int .i64 (i + 1)) (congrArg (Value.int .i64) (IntWalk.i64_in _ (by omega))) (k := ?_)
      refine WL.op (d := 10) (.int .i64 (i + 1)) (k := ?_)
      refine WL.nil ?_
      refine WX.round (i + 1, xs, S38) (by show (100 - (i + 1)).toNat < (100 - i).toNat; omega) ⟨(by kernel_rfl), (by kernel_rfl), (by kernel_rfl), (by kernel_rfl), (by kernel_rfl), (by kernel_rfl), (by kernel_rfl), (by kernel_rfl), (by kernel_rfl), (by kernel_rfl), (by kernel_rfl), (by kernel_rfl), (by kernel_rfl), (by kernel_rfl), (by kernel_rfl), (by kernel_rfl), (by kernel_rfl), (by kernel_rfl), (by kernel_rfl), (by kernel_rfl), (by kernel_rfl), (by kernel_rfl), (by kernel_rfl), (by kernel_rfl), trivial⟩ ⟨K, hd39, lk42, (by omega), (by omega), (by omega)⟩
  · have ph28 := of_decide_eq_false h28
    refine WC.exit ?_
    refine WX.seqE ?_
    refine WX.seqE ?_
    refine WX.blockE ?_
    refine WX.seqN ?_
    refine WC.seq ?_
    refine WC.region ?_
    refine WL.op (d := 38) (.int .i64 r23) (k := ?_)
    refine WL.opE (d := 39) (.int .i64 (IntKind.i64.wrap (r23 + 1))) (v := .int .i64 (r23 + 1)) (congrArg (Value.int .i64) (IntWalk.i64_in _ (by omega))) (k := ?_)
    refine WL.op (d := 40) (.int .i64 (if 5 < (r23 + 1) then 5 else (r23 + 1))) (k := ?_)
    refine WL.opE (d := 41) (.int .i64 (IntKind.i64.wrap (5 + (if 5 < (r23 + 1) then 5 else (r23 + 1))))) (v := .int .i64 (5 + (if 5 < (r23 + 1) then 5 else (r23 + 1)))) (congrArg (Value.int .i64) (IntWalk.i64_in _ (by omega))) (k := ?_)
    refine WL.op (d := 11) (.int .i64 (5 + (if 5 < (r23 + 1) then 5 else (r23 + 1)))) (k := ?_)
    refine WL.nil ?_
    refine WX.seqN ?_
    refine WC.seq ?_
    refine WC.region ?_
    refine WL.op (d := 42) (.int .i64 y) (k := ?_)
    refine WL.bin (d := 43) (v := .int .i64 (Int.tmod y 12)) (rem_run (by omega)) (k := ?_)
    have m43 := tmod_rng y 12 (by omega)
    obtain ⟨r44, e45⟩ : ∃ r : Int, Int.tmod y 12 = r := ⟨_, rfl⟩
    rw [e45] at m43
    refine WL.rw (t := 43) (v := .int .i64 r44) (congrArg (Value.int .i64) e45) (k := ?_)
    refine WL.opE (d := 44) (.int .i64 (IntKind.i64.wrap (r44 + 12))) (v := .int .i64 (r44 + 12)) (congrArg (Value.int .i64) (IntWalk.i64_in _ (by omega))) (k := ?_)
    refine WL.bin (d := 45) (v := .int .i64 (Int.tmod (r44 + 12) 12)) (rem_run (by omega)) (k := ?_)
    have m46 := tmod_rng (r44 + 12) 12 (by omega)
    obtain ⟨r47, e48⟩ : ∃ r : Int, Int.tmod (r44 + 12) 12 = r := ⟨_, rfl⟩
    rw [e48] at m46
    refine WL.rw (t := 45) (v := .int .i64 r47) (congrArg (Value.int .i64) e48) (k := ?_)
    refine WL.opE (d := 46) (.int .i64 (IntKind.i64.wrap (1 + r47))) (v := .int .i64 (1 + r47)) (congrArg (Value.int .i64) (IntWalk.i64_in _ (by omega))) (k := ?_)
    refine WL.op (d := 12) (.int .i64 (1 + r47)) (k := ?_)
    refine WL.nil ?_
    refine WX.seqN ?_
    refine WC.seq ?_
    have ho_ : opsJ 2 5 xs = 2 * 2 + min (List.length xs + 1) 5 := rfl
    refine WC.region ?_
    refine WL.op (d := 47) (.pointer (some ⟨b4, 0, none⟩)) (k := ?_)
    refine WL.op (d := 48) (.int .i64 (1 + r47)) (k := ?_)
    refine WL.callG (d := 49) (f := 12) (args := #[.pointer (some ⟨b4, 0, none⟩), .int .i64 (1 + r47)]) (jg_fail (f' := 1 + r47) hb26 (by omega) (by omega)) (k := fun e_ w49 h_ => ?_)
    obtain ⟨rfl, S50, hd51, lk52, k53⟩ := h_
    refine ⟨_, rfl, ?_⟩
    have lk54 := lk_step lk27 lk52 K
    replace K := K.trans' k53 (fun i hi e => (lk27 i e).elim (fun h => h.elim) (fun h => absurd hi (Nat.not_lt.2 h)))
    clear hb26
    refine WL.nil ?_
    refine WX.seqN ?_
    refine WC.seq ?_
    refine WC.region ?_
    refine WL.op (d := 51) (.pointer (some ⟨b4, 0, none⟩)) (k := ?_)
    refine bsplit (decide (1 + r47 ≤ ((opsJ 2 5 xs + 1 : Nat) : Int))) (fun h55 => ?_) (fun h55 => ?_)
    · have ph55 := of_decide_eq_true h55
      refine WL.callG (d := 52) (f := 13) (args := #[.pointer (some ⟨b4, 0, none⟩), .int .i64 2]) (jg_open_bad (k := 2) hd51 (by omega) ph55) (k := fun e_ w56 h_ => ?_)
      obtain ⟨rfl, k57⟩ := h_
      refine ⟨_, rfl, ?_⟩
      replace K := K.trans' k57 (fun i hi e => (lk54 i e).elim (fun h => h.elim) (fun h => absurd hi (Nat.not_lt.2 h)))
      refine WL.op (d := 50) (.tuple #[.pointer none, .agg #[.string ⟨#[]⟩, .slice none 0 0], .int .i64 18]) (k := ?_)
      refine WL.op (d := 53) (.pointer none) (k := ?_)
      refine WL.op (d := 54) (.agg #[.string ⟨#[]⟩, .slice none 0 0]) (k := ?_)
      refine WL.op (d := 55) (.int .i64 18) (k := ?_)
      refine WL.new (d := 14) (T := 33) #[.string ⟨#[]⟩, .slice none 0 0] (k := fun b58 w59 g60 hb61 k62 => ?_)
      have z63 := Nat.le_trans K.size g60
      replace K := K.trans (k62.any _)
      refine WL.op (d := 13) (.pointer none) (k := ?_)
      refine WL.store (v := .agg #[.string ⟨#[]⟩, .slice none 0 0]) (i := 0) (cs' := #[.string ⟨#[]⟩, .slice none 0 0]) hb61 (k := fun w64 hb65 k66 => ?_)
      replace K := K.trans' k66 (fun i hi e => absurd (e ▸ hi) (Nat.not_lt.2 z63))
      clear hb61
      refine WL.op (d := 15) (.int .i64 18) (k := ?_)
      refine WL.nil ?_
      refine WX.seqN ?_
      refine WC.seq ?_
      refine WC.seq ?_
      refine WC.region ?_
      refine WL.op (d := 56) (.int .i64 (1 + r47)) (k := ?_)
      refine WL.op (d := 57) (.int .i64 (5 + (if 5 < (r23 + 1) then 5 else (r23 + 1)))) (k := ?_)
      refine WL.op (d := 58) (.bool (decide ((1 + r47) > (5 + (if 5 < (r23 + 1) then 5 else (r23 + 1)))))) (k := ?_)
      refine WL.nil ?_
      refine WX.seqN ?_
      refine WC.cond (b := decide ((1 + r47) > (5 + (if 5 < (r23 + 1) then 5 else (r23 + 1))))) (ht := fun h67 => ?_) (hf := fun h67 => ?_)
      · have ph67 := of_decide_eq_true h67
        refine WC.seq ?_
        refine WC.region ?_
        refine WL.op (d := 59) (.bool true) (k := ?_)
        refine WL.op (d := 60) (.bool true) (k := ?_)
        refine WL.op (d := 61) (.int .i64 18) (k := ?_)
        refine WL.op (d := 62) (.bool false) (k := ?_)
        refine WL.op (d := 63) (.bool false) (k := ?_)
        refine WL.op (d := 64) (.bool false) (k := ?_)
        refine WL.skip (d := 65) (k := ?_)
        refine WL.skip (d := 66) (k := ?_)
        refine WL.op (d := 67) (.bool false) (k := ?_)
        refine WL.op (d := 68) (.bool false) (k := ?_)
        refine WL.skip (d := 69) (k := ?_)
        refine WL.skip (d := 70) (k := ?_)
        refine WL.skip (d := 71) (k := ?_)
        refine WL.skip (d := 72) (k := ?_)
        refine WL.skip (d := 73) (k := ?_)
        refine WL.op (d := 74) (.bool false) (k := ?_)
        refine WL.op (d := 4) (.bool false) (k := ?_)
        refine WL.nil ?_
        refine WX.seqN ?_
        refine WC.ret ?_
        refine WX.seqR ?_
        refine WX.ret (rs := [.tmp 4]) [.bool false] (.bool false) ⟨(by kernel_rfl), trivial⟩ (k := ?_)
        exfalso; first | omega | (simp at *; done) | (simp at *; omega)
      · have ph67 := of_decide_eq_false h67
        refine WC.skip ?_
        refine WX.seqN ?_
        refine WC.seq ?_
        refine WC.region ?_
        refine WL.op (d := 75) (.bool true) (k := ?_)
        refine WL.op (d := 76) (.bool true) (k := ?_)
        refine WL.op (d := 77) (.int .i64 18) (k := ?_)
        refine WL.op (d := 78) (.bool true) (k := ?_)
        refine WL.op (d := 79) (.bool true) (k := ?_)
        refine WL.op (d := 80) (.bool true) (k := ?_)
        refine WL.op (d := 81) (.pointer none) (k := ?_)
        refine WL.op (d := 82) (.bool true) (k := ?_)
        refine WL.op (d := 83) (.bool true) (k := ?_)
        refine WL.op (d := 84) (.bool true) (k := ?_)
        refine WL.op (d := 85) (.pointer (some ⟨b58, 0, none⟩)) (k := ?_)
        refine WL.load (v := .string ⟨#[]⟩) (ld1 (T := 9) (i := 0) hb65) (k := ?_)
        refine WL.op (d := 87) (.bool true) (k := ?_)
        refine WL.op (d := 88) (.bool true) (k := ?_)
        refine WL.op (d := 89) (.bool true) (k := ?_)
        refine WL.op (d := 90) (.pointer (some ⟨b58, 1, none⟩)) (k := ?_)
        refine WL.load (v := .slice none 0 0) (ld1 (T := 31) (i := 1) hb65) (k := ?_)
        refine WL.op (d := 92) (.int .i64 0) (k := ?_)
        refine WL.op (d := 93) (.bool true) (k := ?_)
        refine WL.op (d := 94) (.bool true) (k := ?_)
        refine WL.op (d := 4) (.bool true) (k := ?_)
        refine WL.nil ?_
        refine WX.seqN ?_
        refine WC.ret ?_
        refine WX.ret (rs := [.tmp 4]) [.bool true] (.bool true) ⟨(by kernel_rfl), trivial⟩ (k := ?_)
        exact ⟨rfl, K⟩
    · have ph55 := of_decide_eq_false h55
      refine WL.callG (d := 52) (f := 13) (args := #[.pointer (some ⟨b4, 0, none⟩), .int .i64 2]) (jg_open (k := 2) hd51 (.inr (by omega))) (k := fun e_ w68 h_ => ?_)
      obtain ⟨jb69, A70, c71, S72, rfl, hd73, ho74, ol75, n76, lk77, k78⟩ := h_
      refine ⟨_, rfl, ?_⟩
      have ol79 := fun i h => Nat.le_trans K.size (ol75 i h)
      have lk80 := lk_step lk54 lk77 K
      replace K := K.trans' k78 (fun i hi e => (lk54 i e).elim (fun h => h.elim) (fun h => absurd hi (Nat.not_lt.2 h)))
      clear hd51
      refine WL.op (d := 50) (.tuple #[.pointer (some ⟨jb69, 0, none⟩), .agg #[.string ⟨#[120]⟩, .slice A70 (List.length xs) c71], .int .i64 0]) (k := ?_)
      refine WL.op (d := 53) (.pointer (some ⟨jb69, 0, none⟩)) (k := ?_)
      refine WL.op (d := 54) (.agg #[.string ⟨#[120]⟩, .slice A70 (List.length xs) c71]) (k := ?_)
      refine WL.op (d := 55) (.int .i64 0) (k := ?_)
      refine WL.new (d := 14) (T := 33) #[.string ⟨#[]⟩, .slice none 0 0] (k := fun b81 w82 g83 hb84 k85 => ?_)
      have z86 := Nat.le_trans K.size g83
      have n87 : ¬ S72 b81 := fun h => absurd (hd73.lt _ h) (Nat.not_lt.2 g83)
      have n88 := OwAt.off_new ho74 g83
      replace hd73 := hd73.adds k85
      replace ho74 := ho74.adds k85
      replace K := K.trans (k85.any _)
      refine WL.op (d := 13) (.pointer (some ⟨jb69, 0, none⟩)) (k := ?_)
      refine WL.store (v := .agg #[.string ⟨#[120]⟩, .slice A70 (List.length xs) c71]) (i := 0) (cs' := #[.string ⟨#[120]⟩, .slice A70 (List.length xs) c71]) hb84 (k := fun w89 hb90 k91 => ?_)
      replace hd73 := hd73.keeps k91 (fun i hi e => n87 (e ▸ hi))
      replace ho74 := ho74.keeps k91 (fun i hi e => (n88) (e ▸ hi))
      replace K := K.trans' k91 (fun i hi e => absurd (e ▸ hi) (Nat.not_lt.2 z86))
      clear hb84
      refine WL.op (d := 15) (.int .i64 0) (k := ?_)
      refine WL.nil ?_
      refine WX.seqN ?_
      refine WC.seq ?_
      refine WC.seq ?_
      refine WC.region ?_
      refine WL.op (d := 56) (.int .i64 (1 + r47)) (k := ?_)
      refine WL.op (d := 57) (.int .i64 (5 + (if 5 < (r23 + 1) then 5 else (r23 + 1)))) (k := ?_)
      refine WL.op (d := 58) (.bool (decide ((1 + r47) > (5 + (if 5 < (r23 + 1) then 5 else (r23 + 1)))))) (k := ?_)
      refine WL.nil ?_
      refine WX.seqN ?_
      refine WC.cond (b := decide ((1 + r47) > (5 + (if 5 < (r23 + 1) then 5 else (r23 + 1))))) (ht := fun h92 => ?_) (hf := fun h92 => ?_)
      · have ph92 := of_decide_eq_true h92
        refine WC.seq ?_
        refine WC.region ?_
        refine WL.op (d := 59) (.bool true) (k := ?_)
        refine WL.op (d := 60) (.bool true) (k := ?_)
        refine WL.op (d := 61) (.int .i64 0) (k := ?_)
        refine WL.op (d := 62) (.bool true) (k := ?_)
        refine WL.op (d := 63) (.bool true) (k := ?_)
        refine WL.op (d := 64) (.bool true) (k := ?_)
        refine WL.op (d := 65) (.pointer (some ⟨jb69, 0, none⟩)) (k := ?_)
        refine WL.op (d := 66) (.bool true) (k := ?_)
        refine WL.op (d := 67) (.bool true) (k := ?_)
        refine WL.op (d := 68) (.bool true) (k := ?_)
        refine WL.op (d := 69) (.pointer (some ⟨b81, 1, none⟩)) (k := ?_)
        refine WL.load (v := .slice A70 (List.length xs) c71) (ld1 (T := 31) (i := 1) hb90) (k := ?_)
        refine WL.op (d := 71) (.int .i64 ((List.length xs) : Int)) (k := ?_)
        refine WL.op (d := 72) (.int .i64 r23) (k := ?_)
        refine WL.op (d := 73) (.bool (((List.length xs) : Int) == r23)) (k := ?_)
        refine WL.op (d := 74) (.bool (((List.length xs) : Int) == r23)) (k := ?_)
        refine WL.op (d := 4) (.bool (((List.length xs) : Int) == r23)) (k := ?_)
        refine WL.nil ?_
        refine WX.seqN ?_
        refine WC.ret ?_
        refine WX.seqR ?_
        refine WX.ret (rs := [.tmp 4]) [.bool (((List.length xs) : Int) == r23)] (.bool (((List.length xs) : Int) == r23)) ⟨(by kernel_rfl), trivial⟩ (k := ?_)
        exact ⟨ret_bool (by first | (simp; done) | (simp; omega)), K⟩
      · have ph92 := of_decide_eq_false h92
        refine WC.skip ?_
        refine WX.seqN ?_
        refine WC.seq ?_
        refine WC.region ?_
        refine WL.op (d := 75) (.bool true) (k := ?_)
        refine WL.op (d := 76) (.bool true) (k := ?_)
        refine WL.op (d := 77) (.int .i64 0) (k := ?_)
        refine WL.op (d := 78) (.bool false) (k := ?_)
        refine WL.op (d := 79) (.bool false) (k := ?_)
        refine WL.op (d := 80) (.bool false) (k := ?_)
        refine WL.skip (d := 81) (k := ?_)
        refine WL.skip (d := 82) (k := ?_)
        refine WL.op (d := 83) (.bool false) (k := ?_)
        refine WL.op (d := 84) (.bool false) (k := ?_)
        refine WL.skip (d := 85) (k := ?_)
        refine WL.skip (d := 86) (k := ?_)
        refine WL.skip (d := 87) (k := ?_)
        refine WL.op (d := 88) (.bool false) (k := ?_)
        refine WL.op (d := 89) (.bool false) (k := ?_)
        refine WL.skip (d := 90) (k := ?_)
        refine WL.skip (d := 91) (k := ?_)
        refine WL.skip (d := 92) (k := ?_)
        refine WL.skip (d := 93) (k := ?_)
        refine WL.op (d := 94) (.bool false) (k := ?_)
        refine WL.op (d := 4) (.bool false) (k := ?_)
        refine WL.nil ?_
        refine WX.seqN ?_
        refine WC.ret ?_
        refine WX.ret (rs := [.tmp 4]) [.bool false] (.bool false) ⟨(by kernel_rfl), trivial⟩ (k := ?_)
        exfalso; first | omega | (simp at *; done) | (simp at *; omega)
end Go.Proofs.YtnndkgmcjbnfbaaGreatDoor
