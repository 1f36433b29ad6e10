/- Jl2. -/
import Derived.Test.YtnndkgmcjbnfbaaGreatDoorPk6
namespace Go.Proofs.YtnndkgmcjbnfbaaGreatDoor
open Go.RowKit
set_option linter.unusedVariables false
set_option linter.unusedSimpArgs false
set_option maxRecDepth 100000 in
set_option maxHeartbeats 4000000 in
theorem l08awake_c (w : World) : Calls Tryz.prog 8 #[] w fun e w' => e = .returned (.bool true) ∧ Adds w w' := by
  have K : Keeps (fun _ => False) w w := Keeps.refl _ w
  refine Calls.start Tryz.func8 rfl (by kernel_rfl) ?_
  refine WC.seq ?_
  refine WC.region ?_
  refine WL.op (d := 0) (.bool false) (k := ?_)
  refine WL.nil ?_
  refine WX.seqN ?_
  refine WC.seq ?_
  refine WC.region ?_
  refine WL.callG (d := 8) (f := 9) (args := #[.int .i64 8]) (dNew_ok (n := 8) (by omega) (by omega) w) (k := fun e_ w1 h_ => ?_)
  obtain ⟨b2, S3, rfl, g4, hd5, ho6, k7⟩ := h_
  refine ⟨_, rfl, ?_⟩
  have lk8 : ∀ k, S3 k → False ∨ w.heap.size ≤ k := fun k h => .inr (Nat.le_trans K.size (ho6 k h))
  have z9 := Nat.le_trans K.size g4
  replace K := K.trans (k7.any _)
  refine WL.op (d := 1) (.pointer (some ⟨b2, 0, none⟩)) (k := ?_)
  refine WL.nil ?_
  refine WX.seqN ?_
  refine WC.seq ?_
  refine WC.region ?_
  refine WL.op (d := 10) (.pointer (some ⟨b2, 0, none⟩)) (k := ?_)
  refine WL.callG (d := 11) (f := 10) (args := #[.pointer (some ⟨b2, 0, none⟩), .int .i64 2, .string ⟨#[97]⟩]) (jg_format (k := 2) (n := 4) (m := 8) (rd := 0) (l := [97]) (by omega) hd5 (by omega) (by omega) (by omega) (by omega) (by first | (simp; done) | (simp; omega))) (k := fun e_ w10 h_ => ?_)
  obtain ⟨jb11, rfl, S12, hd13, lk14, k15⟩ := h_
  refine ⟨_, rfl, ?_⟩
  have lk16 := lk_step lk8 lk14 K
  replace K := K.trans' k15 (fun i hi e => (lk8 i e).elim (fun h => h.elim) (fun h => absurd hi (Nat.not_lt.2 h)))
  clear hd5
  refine WL.op (d := 9) (.tuple #[.pointer (some ⟨jb11, 0, none⟩), .int .i64 0]) (k := ?_)
  refine WL.op (d := 12) (.pointer (some ⟨jb11, 0, none⟩)) (k := ?_)
  refine WL.op (d := 13) (.int .i64 0) (k := ?_)
  refine WL.op (d := 2) (.pointer (some ⟨jb11, 0, none⟩)) (k := ?_)
  refine WL.op (d := 3) (.int .i64 0) (k := ?_)
  refine WL.nil ?_
  refine WX.seqN ?_
  refine WC.seq ?_
  refine WC.region ?_
  refine WL.op (d := 14) (.pointer (some ⟨jb11, 0, none⟩)) (k := ?_)
  have h17 : (decide ((List.length ([] : List (List UInt8))) < 4)) = true := decide_eq_true (by first | (simp; done) | (simp; omega))
  have ph17 := of_decide_eq_true h17
  refine WL.callG (d := 15) (f := 11) (args := #[.pointer (some ⟨jb11, 0, none⟩), .string ⟨#[98]⟩]) (jg_app (R := 0) (ys := ([] : List (List UInt8)) ++ [[98]]) (l := [98]) hd13 (by first | omega | (simp; done)) (.inl ⟨ph17, rfl, rfl⟩)) (k := fun e_ w19 h_ => ?_)
  obtain ⟨rfl, S20, hd21, lk22, k23⟩ := h_
  refine ⟨_, rfl, ?_⟩
  have lk24 := lk_step lk16 lk22 K
  replace K := K.trans' k23 (fun i hi e => (lk16 i e).elim (fun h => h.elim) (fun h => absurd hi (Nat.not_lt.2 h)))
  clear hd13
  have la18 : List.length (([] : List (List UInt8)) ++ [[98]]) = List.length ([] : List (List UInt8)) + 1 := by simp
  refine WL.op (d := 4) (.int .i64 0) (k := ?_)
  refine WL.nil ?_
  refine WX.seqN ?_
  refine WC.seq ?_
  refine WC.region ?_
  refine WL.op (d := 17) (.pointer (some ⟨b2, 0, none⟩)) (k := ?_)
  refine WL.callG (d := 18) (f := 13) (args := #[.pointer (some ⟨b2, 0, none⟩), .int .i64 2]) (jg_open (k := 2) hd21 (.inl rfl)) (k := fun e_ w25 h_ => ?_)
  obtain ⟨jb26, A27, c28, S29, rfl, hd30, ho31, ol32, n33, lk34, k35⟩ := h_
  refine ⟨_, rfl, ?_⟩
  have ol36 := fun i h => Nat.le_trans K.size (ol32 i h)
  have lk37 := lk_step lk24 lk34 K
  replace K := K.trans' k35 (fun i hi e => (lk24 i e).elim (fun h => h.elim) (fun h => absurd hi (Nat.not_lt.2 h)))
  clear hd21
  change JgAt S29 b2 (⟨2, 4, 1, jb26, 0, (rcN (rcN 0 (2 * 2)) (opsJ 2 4 (([] : List (List UInt8)) ++ [[98]]))), 1, [97], (([] : List (List UInt8)) ++ [[98]])⟩ : JG) w25 at hd30
  refine WL.op (d := 16) (.tuple #[.pointer (some ⟨jb26, 0, none⟩), .agg #[.string ⟨#[97]⟩, .slice A27 (List.length (([] : List (List UInt8)) ++ [[98]])) c28], .int .i64 0]) (k := ?_)
  refine WL.op (d := 19) (.pointer (some ⟨jb26, 0, none⟩)) (k := ?_)
  refine WL.op (d := 20) (.agg #[.string ⟨#[97]⟩, .slice A27 (List.length (([] : List (List UInt8)) ++ [[98]])) c28]) (k := ?_)
  refine WL.op (d := 21) (.int .i64 0) (k := ?_)
  refine WL.new (d := 6) (T := 33) #[.string ⟨#[]⟩, .slice none 0 0] (k := fun b38 w39 g40 hb41 k42 => ?_)
  have z43 := Nat.le_trans K.size g40
  have n44 : ¬ S29 b38 := fun h => absurd (hd30.lt _ h) (Nat.not_lt.2 g40)
  have n45 := OwAt.off_new ho31 g40
  replace hd30 := hd30.adds k42
  replace ho31 := ho31.adds k42
  replace K := K.trans (k42.any _)
  refine WL.op (d := 5) (.pointer (some ⟨jb26, 0, none⟩)) (k := ?_)
  refine WL.store (v := .agg #[.string ⟨#[97]⟩, .slice A27 (List.length (([] : List (List UInt8)) ++ [[98]])) c28]) (i := 0) (cs' := #[.string ⟨#[97]⟩, .slice A27 (List.length (([] : List (List UInt8)) ++ [[98]])) c28]) hb41 (k := fun w46 hb47 k48 => ?_)
  replace hd30 := hd30.keeps k48 (fun i hi e => n44 (e ▸ hi))
  replace ho31 := ho31.keeps k48 (fun i hi e => (n45) (e ▸ hi))
  replace K := K.trans' k48 (fun i hi e => absurd (e ▸ hi) (Nat.not_lt.2 z43))
  clear hb41
  refine WL.op (d := 7) (.int .i64 0) (k := ?_)
  refine WL.nil ?_
  refine WX.seqN ?_
  refine WC.seq ?_
  refine WC.region ?_
  refine WL.op (d := 22) (.int .i64 0) (k := ?_)
  refine WL.op (d := 23) (.bool true) (k := ?_)
  refine WL.op (d := 24) (.bool true) (k := ?_)
  refine WL.op (d := 25) (.int .i64 0) (k := ?_)
  refine WL.op (d := 26) (.bool true) (k := ?_)
  refine WL.op (d := 27) (.bool true) (k := ?_)
  refine WL.op (d := 28) (.bool true) (k := ?_)
  refine WL.op (d := 29) (.int .i64 0) (k := ?_)
  refine WL.op (d := 30) (.bool true) (k := ?_)
  refine WL.op (d := 31) (.bool true) (k := ?_)
  refine WL.op (d := 32) (.bool true) (k := ?_)
  refine WL.op (d := 33) (.pointer (some ⟨b38, 0, none⟩)) (k := ?_)
  refine WL.load (v := .string ⟨#[97]⟩) (ld1 (T := 9) (i := 0) hb47) (k := ?_)
  refine WL.op (d := 35) (.bool true) (k := ?_)
  refine WL.op (d := 36) (.bool true) (k := ?_)
  refine WL.op (d := 37) (.bool true) (k := ?_)
  refine WL.op (d := 38) (.pointer (some ⟨b38, 1, none⟩)) (k := ?_)
  refine WL.load (v := .slice A27 (List.length (([] : List (List UInt8)) ++ [[98]])) c28) (ld1 (T := 31) (i := 1) hb47) (k := ?_)
  refine WL.op (d := 40) (.int .i64 ((List.length (([] : List (List UInt8)) ++ [[98]])) : Int)) (k := ?_)
  refine WL.op (d := 41) (.bool (((List.length (([] : List (List UInt8)) ++ [[98]])) : Int) == 1)) (k := ?_)
  refine WL.op (d := 42) (.bool (((List.length (([] : List (List UInt8)) ++ [[98]])) : Int) == 1)) (k := ?_)
  refine WL.op (d := 43) (.bool (((List.length (([] : List (List UInt8)) ++ [[98]])) : Int) == 1)) (k := ?_)
  refine bsplit (((List.length (([] : List (List UInt8)) ++ [[98]])) : Int) == 1) (fun h49 => ?_) (fun h49 => ?_)
  · have ph49 := eq_of_beq h49
    refine WL.rw (t := 43) (v := .bool true) (congrArg Value.bool h49) (k := ?_)
    refine WL.op (d := 44) (.pointer (some ⟨b38, 1, none⟩)) (k := ?_)
    refine WL.load (v := .slice A27 (List.length (([] : List (List UInt8)) ++ [[98]])) c28) (ld1 (T := 31) (i := 1) hb47) (k := ?_)
    obtain ⟨b50, o51, r52, hr53, hA54, he55⟩ := SlAt.at (ho31.sl ekStr) (i := 0) (by omega) (by omega)
    refine WL.rw (t := 45) (v := .slice (some ⟨b50, o51, none⟩) (List.length (([] : List (List UInt8)) ++ [[98]])) c28) (congrArg (fun a => Value.slice a (List.length (([] : List (List UInt8)) ++ [[98]])) c28) hA54) (k := ?_)
    refine WL.idx (T := 31) (E := 9) (m := 1) (b := b50) (o := o51) (len := (List.length (([] : List (List UInt8)) ++ [[98]]))) (cap := c28) (i := 0) (kk := .i64) (d := 46) (by omega) (by omega) (k := ?_)
    refine WL.rw (t := 45) (v := .slice A27 (List.length (([] : List (List UInt8)) ++ [[98]])) c28) (congrArg (fun a => Value.slice a (List.length (([] : List (List UInt8)) ++ [[98]])) c28) (Eq.symm hA54)) (k := ?_)
    refine WL.load (v := .string ⟨(r52).toArray⟩) (he55.ld0 (T := 9)) (k := ?_)
    refine WL.opE (d := 48) (.bool (ByteArray.toList ⟨(r52).toArray⟩ == ByteArray.toList ⟨([98]).toArray⟩)) (v := .bool (decide (r52 = [98]))) (str_eql _ _) (k := ?_)
    refine WL.op (d := 49) (.bool (decide (r52 = [98]))) (k := ?_)
    refine WL.op (d := 0) (.bool (decide (r52 = [98]))) (k := ?_)
    refine WL.nil ?_
    refine WX.seqN ?_
    refine WC.ret ?_
    refine WX.ret (rs := [.tmp 0]) [.bool (decide (r52 = [98]))] (.bool (decide (r52 = [98]))) ⟨(by kernel_rfl), trivial⟩ (k := ?_)
    exact ⟨ret_bool (decide_eq_true (by simpa using hr53.symm)), K⟩
  · have ph49 := ne_of_beq_false h49
    refine WL.rw (t := 43) (v := .bool false) (congrArg Value.bool h49) (k := ?_)
    refine WL.skip (d := 44) (k := ?_)
    refine WL.skip (d := 45) (k := ?_)
    refine WL.skip (d := 46) (k := ?_)
    refine WL.skip (d := 47) (k := ?_)
    refine WL.skip (d := 48) (k := ?_)
    refine WL.op (d := 49) (.bool false) (k := ?_)
    refine WL.op (d := 0) (.bool false) (k := ?_)
    refine WL.nil ?_
    refine WX.seqN ?_
    refine WC.ret ?_
    refine WX.ret (rs := [.tmp 0]) [.bool false] (.bool false) ⟨(by kernel_rfl), trivial⟩ (k := ?_)
    exfalso; first | omega | (simp at *; done) | (simp at *; omega)
end Go.Proofs.YtnndkgmcjbnfbaaGreatDoor
