/- ScriptBack. -/
import Derived.Test.YtfpdfjbooalgjaaSc6
namespace Go.Proofs.Ytfpdfjbooalgjaa
open Go.RowKit
set_option linter.unusedVariables false
set_option linter.unusedSimpArgs false

set_option maxRecDepth 100000 in
set_option maxHeartbeats 4000000 in
theorem scriptBack_any {L : Option Addr} {lc : Nat} {l : List GCmd} {w : World} (hL : SlAt cmdC 15 32 L l w) (hF : Fts 9223372036854775807 l w) (hl : l.length ≤ 9223372036854775807) (c : UInt8) : Calls Try.prog 5 #[.slice L l.length lc, .int .u8 (c.toNat : Int)] w fun e w' => e = .returned (.bool true) ∧ Adds w w' := by
  have K : Keeps (fun _ => False) w w := Keeps.refl _ w
  have hFf := fts_few hF
  have hFg := fts_good hF
  refine Calls.start Try.func5 rfl (by kernel_rfl) ?_
  refine WC.seq ?_
  refine WC.region ?_
  refine WL.op (d := 4) (.bool false) (k := ?_)
  refine WL.nil ?_
  refine WX.seqN ?_
  refine WC.seq ?_
  refine WC.region ?_
  refine WL.callG (d := 16) (f := 7) (args := #[]) (l23awake_c w) (k := fun e_ w1 h_ => ⟨.bool true, h_.1, ?_⟩)
  have k2 := h_.2; clear h_
  replace K := K.trans (k2.any _)
  refine WL.op (d := 5) (.bool true) (k := ?_)
  refine WL.nil ?_
  refine WX.seqN ?_
  refine WC.seq ?_
  refine WC.region ?_
  refine WL.op (d := 17) (.slice L l.length lc) (k := ?_)
  refine WL.callG (d := 18) (f := 15) (args := #[.slice L l.length lc]) (l23good_c (lc := lc) (hL.adds K) (hF.adds K) hl) (k := fun e_ w3 h_ => ?_)
  obtain ⟨A4, c5, rfl, ho6, k7, ol8⟩ := h_
  refine ⟨_, rfl, ?_⟩
  have ol9 := fun i h => Nat.le_trans K.size (ol8 i h)
  replace K := K.trans (k7.any _)
  clear ol8
  have fl10 := goodL_len l
  refine WL.op (d := 6) (.slice A4 ((goodL l).length) c5) (k := ?_)
  refine WL.nil ?_
  refine WX.seqN ?_
  refine WC.seq ?_
  refine WC.region ?_
  refine WL.op (d := 19) (.slice A4 ((goodL l).length) c5) (k := ?_)
  refine WL.callG (d := 20) (f := 13) (args := #[.slice A4 ((goodL l).length) c5]) (sBytes_c (cp := c5) (ho6.sl ekCmd) (Fts.le (hFg.adds K) (by omega)) (by omega)) (k := fun e_ w11 h_ => ⟨.string ⟨(bytesC (List.map GCmd.p (goodL l))).toArray⟩, h_.1, ?_⟩)
  have k12 := h_.2; clear h_
  replace ho6 := ho6.adds k12
  replace K := K.trans (k12.any _)
  refine WL.op (d := 7) (.string ⟨(bytesC (List.map GCmd.p (goodL l))).toArray⟩) (k := ?_)
  refine WL.nil ?_
  refine WX.seqN ?_
  refine WC.seq ?_
  refine WC.rw (t := 7) (v := .string ⟨(cencs (List.map GCmd.p (goodL l))).toArray⟩) (congrArg (fun l : List UInt8 => Value.string ⟨l.toArray⟩) (good_bytes l)) (k := ?_)
  have gl_ := good_len l
  refine WC.region ?_
  refine WL.op (d := 22) (.string ⟨(cencs (List.map GCmd.p (goodL l))).toArray⟩) (k := ?_)
  refine WL.callG (d := 23) (f := 17) (args := #[.string ⟨(cencs (List.map GCmd.p (goodL l))).toArray⟩]) (sRead_c (l := (cencs (List.map GCmd.p (goodL l)))) (by show List.length (cencs (List.map GCmd.p (goodL l))) ≤ _; first | omega | (simp; omega))) (k := fun e_ w13 h_ => ?_)
  obtain ⟨xs14, A15, c16, r17, rfl, ho18, hF19, hP20, k21, ol22⟩ := h_
  refine ⟨_, rfl, ?_⟩
  have ol23 := fun i h => Nat.le_trans K.size (ol22 i h)
  replace ho6 := ho6.adds k21
  replace K := K.trans (k21.any _)
  clear ol22
  have pl24 := hP20.len
  have ll25 : List.length (cencs (List.map GCmd.p (goodL l))) ≤ 1000000 := (by show List.length (cencs (List.map GCmd.p (goodL l))) ≤ _; first | omega | (simp; omega))
  refine WL.op (d := 21) (.tuple #[.slice A15 xs14.length c16, .int .i64 (((cencs (List.map GCmd.p (goodL l))).length - r17.length : Nat) : Int), .int .i64 (readEr r17)]) (k := ?_)
  refine WL.op (d := 24) (.slice A15 xs14.length c16) (k := ?_)
  refine WL.op (d := 25) (.int .i64 (((cencs (List.map GCmd.p (goodL l))).length - r17.length : Nat) : Int)) (k := ?_)
  refine WL.op (d := 26) (.int .i64 (readEr r17)) (k := ?_)
  refine WL.op (d := 8) (.slice A15 xs14.length c16) (k := ?_)
  refine WL.op (d := 9) (.int .i64 (((cencs (List.map GCmd.p (goodL l))).length - r17.length : Nat) : Int)) (k := ?_)
  refine WL.op (d := 10) (.int .i64 (readEr r17)) (k := ?_)
  refine WL.nil ?_
  refine WX.seqN ?_
  refine WC.seq ?_
  obtain ⟨hu1, hu2⟩ := Parsed.uniq hP20 (Parsed.of (goodL_ok l))
  refine WC.region ?_
  refine WL.op (d := 27) (.slice A15 xs14.length c16) (k := ?_)
  refine WL.op (d := 28) (.slice A4 ((goodL l).length) c5) (k := ?_)
  refine WL.callG (d := 29) (f := 19) (args := #[.slice A15 xs14.length c16, .slice A4 ((goodL l).length) c5]) (u23SameAll_c (cp := c16) (cq := c5) (ho18.sl ekCmd) (Fts.le hF19.fts (by omega)) (by omega) (ho6.sl ekCmd) (Fts.le (hFg.adds K) (by omega)) (by omega)) (k := fun e_ w26 h_ => ⟨.bool (decide (List.map GCmd.p xs14 = List.map GCmd.p (goodL l))), h_.1, ?_⟩)
  have k27 := h_.2; clear h_
  replace ho6 := ho6.adds k27
  replace ho18 := ho18.adds k27
  replace hF19 := hF19.adds k27
  replace K := K.trans (k27.any _)
  refine WL.op (d := 11) (.bool (decide (List.map GCmd.p xs14 = List.map GCmd.p (goodL l)))) (k := ?_)
  refine WL.nil ?_
  refine WX.seqN ?_
  refine WC.seq ?_
  refine WC.region ?_
  refine WL.op (d := 31) (.string ⟨(cencs (List.map GCmd.p (goodL l))).toArray⟩) (k := ?_)
  refine WL.bin (d := 32) (v := .string ⟨((cencs (List.map GCmd.p (goodL l))) ++ [1, 0]).toArray⟩) (cat_run (by (try simp only [List.length_append, List.length_cons, List.length_nil]); omega)) (k := ?_)
  refine WL.op (d := 33) (.int .u8 (c.toNat : Int)) (k := ?_)
  refine WL.newF (d := 34) (T := 5) #[.int .u8 (c.toNat : Int)] (fun b => .slice (some ⟨b, 0, none⟩) 1 1) (k := fun b28 w29 g30 hb31 k32 => ?_)
  have z33 := Nat.le_trans K.size g30
  replace ho6 := ho6.adds k32
  replace ho18 := ho18.adds k32
  replace hF19 := hF19.adds k32
  replace K := K.trans (k32.any _)
  refine WL.conv (d := 35) (vx := .slice (some ⟨b28, 0, none⟩) 1 1) (v := .string ⟨#[c]⟩) (run_ofBytes (T := 38) (S := 9) (E := 5) (l := [c]) (by kernel_rfl) (by kernel_rfl) (by kernel_rfl) hb31 rfl (by kernel_rfl)) (k := ?_)
  refine WL.bin (d := 36) (v := .string ⟨((cencs (List.map GCmd.p (goodL l))) ++ [1, 0] ++ [c]).toArray⟩) (cat_run (by (try simp only [List.length_append, List.length_cons, List.length_nil]); omega)) (k := ?_)
  obtain ⟨Y, hY, hYl⟩ : ∃ Y, (cencs (List.map GCmd.p (goodL l))) ++ [1, 0] ++ [c] = Y ∧ Y.length ≤ 1000000 := ⟨_, rfl, by simp only [List.length_append, List.length_cons, List.length_nil]; omega⟩
  refine WL.rw (t := 36) (v := .string ⟨(Y).toArray⟩) (congrArg (fun l : List UInt8 => Value.string ⟨l.toArray⟩) hY) (k := ?_)
  refine WL.callG (d := 37) (f := 17) (args := #[.string ⟨(Y).toArray⟩]) (sRead_c (l := Y) (by show List.length Y ≤ _; first | omega | (simp; omega))) (k := fun e_ w34 h_ => ?_)
  obtain ⟨xs35, A36, c37, r38, rfl, ho39, hF40, hP41, k42, ol43⟩ := h_
  refine ⟨_, rfl, ?_⟩
  have ol44 := fun i h => Nat.le_trans K.size (ol43 i h)
  replace ho6 := ho6.adds k42
  replace ho18 := ho18.adds k42
  replace hb31 := k42.heap hb31 id
  replace hF19 := hF19.adds k42
  replace K := K.trans (k42.any _)
  clear ol43
  have pl45 := hP41.len
  have ll46 : List.length Y ≤ 1000000 := (by show List.length Y ≤ _; first | omega | (simp; omega))
  refine WL.op (d := 30) (.tuple #[.slice A36 xs35.length c37, .int .i64 ((Y.length - r38.length : Nat) : Int), .int .i64 (readEr r38)]) (k := ?_)
  refine WL.op (d := 38) (.slice A36 xs35.length c37) (k := ?_)
  refine WL.op (d := 39) (.int .i64 ((Y.length - r38.length : Nat) : Int)) (k := ?_)
  refine WL.op (d := 40) (.int .i64 (readEr r38)) (k := ?_)
  refine WL.op (d := 12) (.slice A36 xs35.length c37) (k := ?_)
  refine WL.op (d := 13) (.int .i64 ((Y.length - r38.length : Nat) : Int)) (k := ?_)
  refine WL.op (d := 14) (.int .i64 (readEr r38)) (k := ?_)
  refine WL.nil ?_
  refine WX.seqN ?_
  refine WC.seq ?_
  have hq_ := hP41
  rw [← hY, back_more] at hq_
  obtain ⟨hu3, hu4⟩ := Parsed.uniq hq_ (Parsed.more (goodL_ok l) c)
  refine WC.region ?_
  refine WL.op (d := 41) (.slice A36 xs35.length c37) (k := ?_)
  refine WL.op (d := 42) (.slice A4 ((goodL l).length) c5) (k := ?_)
  refine WL.callG (d := 43) (f := 19) (args := #[.slice A36 xs35.length c37, .slice A4 ((goodL l).length) c5]) (u23SameAll_c (cp := c37) (cq := c5) (ho39.sl ekCmd) (Fts.le hF40.fts (by omega)) (by omega) (ho6.sl ekCmd) (Fts.le (hFg.adds K) (by omega)) (by omega)) (k := fun e_ w47 h_ => ⟨.bool (decide (List.map GCmd.p xs35 = List.map GCmd.p (goodL l))), h_.1, ?_⟩)
  have k48 := h_.2; clear h_
  replace ho6 := ho6.adds k48
  replace ho18 := ho18.adds k48
  replace hb31 := k48.heap hb31 id
  replace ho39 := ho39.adds k48
  replace hF19 := hF19.adds k48
  replace hF40 := hF40.adds k48
  replace K := K.trans (k48.any _)
  refine WL.op (d := 15) (.bool (decide (List.map GCmd.p xs35 = List.map GCmd.p (goodL l)))) (k := ?_)
  refine WL.nil ?_
  refine WX.seqN ?_
  refine WC.seq ?_
  refine WC.region ?_
  refine WL.op (d := 44) (.bool true) (k := ?_)
  refine WL.op (d := 45) (.bool true) (k := ?_)
  refine WL.op (d := 46) (.bool (decide (List.map GCmd.p xs14 = List.map GCmd.p (goodL l)))) (k := ?_)
  refine WL.op (d := 47) (.bool (decide (List.map GCmd.p xs14 = List.map GCmd.p (goodL l)))) (k := ?_)
  refine WL.op (d := 48) (.bool (decide (List.map GCmd.p xs14 = List.map GCmd.p (goodL l)))) (k := ?_)
  refine bsplit (decide (List.map GCmd.p xs14 = List.map GCmd.p (goodL l))) (fun h49 => ?_) (fun h49 => ?_)
  · have ph49 := of_decide_eq_true h49
    refine WL.rw (t := 48) (v := .bool true) (congrArg Value.bool h49) (k := ?_)
    refine WL.op (d := 49) (.int .i64 (((cencs (List.map GCmd.p (goodL l))).length - r17.length : Nat) : Int)) (k := ?_)
    refine WL.op (d := 50) (.string ⟨(cencs (List.map GCmd.p (goodL l))).toArray⟩) (k := ?_)
    refine WL.op (d := 51) (.int .i64 ((cencs (List.map GCmd.p (goodL l))).length : Int)) (k := ?_)
    refine WL.op (d := 52) (.bool ((((cencs (List.map GCmd.p (goodL l))).length - r17.length : Nat) : Int) == ((cencs (List.map GCmd.p (goodL l))).length : Int))) (k := ?_)
    refine WL.op (d := 53) (.bool ((((cencs (List.map GCmd.p (goodL l))).length - r17.length : Nat) : Int) == ((cencs (List.map GCmd.p (goodL l))).length : Int))) (k := ?_)
    refine WL.op (d := 54) (.bool ((((cencs (List.map GCmd.p (goodL l))).length - r17.length : Nat) : Int) == ((cencs (List.map GCmd.p (goodL l))).length : Int))) (k := ?_)
    refine bsplit ((((cencs (List.map GCmd.p (goodL l))).length - r17.length : Nat) : Int) == ((cencs (List.map GCmd.p (goodL l))).length : Int)) (fun h50 => ?_) (fun h50 => ?_)
    · have ph50 := eq_of_beq h50
      refine WL.rw (t := 54) (v := .bool true) (congrArg Value.bool h50) (k := ?_)
      refine WL.op (d := 55) (.int .i64 (readEr r17)) (k := ?_)
      refine WL.op (d := 56) (.bool ((readEr r17) == 0)) (k := ?_)
      refine WL.op (d := 57) (.bool ((readEr r17) == 0)) (k := ?_)
      refine WL.op (d := 58) (.bool ((readEr r17) == 0)) (k := ?_)
      refine bsplit ((readEr r17) == 0) (fun h51 => ?_) (fun h51 => ?_)
      · have ph51 := eq_of_beq h51
        refine WL.rw (t := 58) (v := .bool true) (congrArg Value.bool h51) (k := ?_)
        refine WL.op (d := 59) (.bool (decide (List.map GCmd.p xs35 = List.map GCmd.p (goodL l)))) (k := ?_)
        refine WL.op (d := 60) (.bool (decide (List.map GCmd.p xs35 = List.map GCmd.p (goodL l)))) (k := ?_)
        refine WL.op (d := 61) (.bool (decide (List.map GCmd.p xs35 = List.map GCmd.p (goodL l)))) (k := ?_)
        refine bsplit (decide (List.map GCmd.p xs35 = List.map GCmd.p (goodL l))) (fun h52 => ?_) (fun h52 => ?_)
        · have ph52 := of_decide_eq_true h52
          refine WL.rw (t := 61) (v := .bool true) (congrArg Value.bool h52) (k := ?_)
          refine WL.op (d := 62) (.int .i64 ((Y.length - r38.length : Nat) : Int)) (k := ?_)
          refine WL.op (d := 63) (.string ⟨(cencs (List.map GCmd.p (goodL l))).toArray⟩) (k := ?_)
          refine WL.op (d := 64) (.int .i64 ((cencs (List.map GCmd.p (goodL l))).length : Int)) (k := ?_)
          refine WL.op (d := 65) (.bool (((Y.length - r38.length : Nat) : Int) == ((cencs (List.map GCmd.p (goodL l))).length : Int))) (k := ?_)
          refine WL.op (d := 66) (.bool (((Y.length - r38.length : Nat) : Int) == ((cencs (List.map GCmd.p (goodL l))).length : Int))) (k := ?_)
          refine WL.op (d := 67) (.bool (((Y.length - r38.length : Nat) : Int) == ((cencs (List.map GCmd.p (goodL l))).length : Int))) (k := ?_)
          refine bsplit (((Y.length - r38.length : Nat) : Int) == ((cencs (List.map GCmd.p (goodL l))).length : Int)) (fun h53 => ?_) (fun h53 => ?_)
          · have ph53 := eq_of_beq h53
            refine WL.rw (t := 67) (v := .bool true) (congrArg Value.bool h53) (k := ?_)
            refine WL.op (d := 68) (.int .i64 (readEr r38)) (k := ?_)
            refine WL.op (d := 69) (.bool ((readEr r38) == 10)) (k := ?_)
            refine WL.op (d := 70) (.bool ((readEr r38) == 10)) (k := ?_)
            refine WL.op (d := 4) (.bool ((readEr r38) == 10)) (k := ?_)
            refine WL.nil ?_
            refine WX.seqN ?_
            refine WC.ret ?_
            refine WX.ret (rs := [.tmp 4]) [.bool ((readEr r38) == 10)] (.bool ((readEr r38) == 10)) ⟨(by kernel_rfl), trivial⟩ (k := ?_)
            exact ⟨ret_bool (beq_iff_eq.2 (er10 hu4)), K⟩
          · have ph53 := ne_of_beq_false h53
            refine WL.rw (t := 67) (v := .bool false) (congrArg Value.bool h53) (k := ?_)
            refine WL.skip (d := 68) (k := ?_)
            refine WL.skip (d := 69) (k := ?_)
            refine WL.op (d := 70) (.bool false) (k := ?_)
            refine WL.op (d := 4) (.bool false) (k := ?_)
            refine WL.nil ?_
            refine WX.seqN ?_
            refine WC.ret ?_
            refine WX.ret (rs := [.tmp 4]) [.bool false] (.bool false) ⟨(by kernel_rfl), trivial⟩ (k := ?_)
            exact absurd (back_at3 hY hu4) ph53
        · have ph52 := of_decide_eq_false h52
          refine WL.rw (t := 61) (v := .bool false) (congrArg Value.bool h52) (k := ?_)
          refine WL.skip (d := 62) (k := ?_)
          refine WL.skip (d := 63) (k := ?_)
          refine WL.skip (d := 64) (k := ?_)
          refine WL.skip (d := 65) (k := ?_)
          refine WL.op (d := 66) (.bool false) (k := ?_)
          refine WL.op (d := 67) (.bool false) (k := ?_)
          refine WL.skip (d := 68) (k := ?_)
          refine WL.skip (d := 69) (k := ?_)
          refine WL.op (d := 70) (.bool false) (k := ?_)
          refine WL.op (d := 4) (.bool false) (k := ?_)
          refine WL.nil ?_
          refine WX.seqN ?_
          refine WC.ret ?_
          refine WX.ret (rs := [.tmp 4]) [.bool false] (.bool false) ⟨(by kernel_rfl), trivial⟩ (k := ?_)
          exact absurd hu3 ph52
      · have ph51 := ne_of_beq_false h51
        refine WL.rw (t := 58) (v := .bool false) (congrArg Value.bool h51) (k := ?_)
        refine WL.skip (d := 59) (k := ?_)
        refine WL.op (d := 60) (.bool false) (k := ?_)
        refine WL.op (d := 61) (.bool false) (k := ?_)
        refine WL.skip (d := 62) (k := ?_)
        refine WL.skip (d := 63) (k := ?_)
        refine WL.skip (d := 64) (k := ?_)
        refine WL.skip (d := 65) (k := ?_)
        refine WL.op (d := 66) (.bool false) (k := ?_)
        refine WL.op (d := 67) (.bool false) (k := ?_)
        refine WL.skip (d := 68) (k := ?_)
        refine WL.skip (d := 69) (k := ?_)
        refine WL.op (d := 70) (.bool false) (k := ?_)
        refine WL.op (d := 4) (.bool false) (k := ?_)
        refine WL.nil ?_
        refine WX.seqN ?_
        refine WC.ret ?_
        refine WX.ret (rs := [.tmp 4]) [.bool false] (.bool false) ⟨(by kernel_rfl), trivial⟩ (k := ?_)
        exact absurd (er0 hu2) ph51
    · have ph50 := ne_of_beq_false h50
      refine WL.rw (t := 54) (v := .bool false) (congrArg Value.bool h50) (k := ?_)
      refine WL.skip (d := 55) (k := ?_)
      refine WL.skip (d := 56) (k := ?_)
      refine WL.op (d := 57) (.bool false) (k := ?_)
      refine WL.op (d := 58) (.bool false) (k := ?_)
      refine WL.skip (d := 59) (k := ?_)
      refine WL.op (d := 60) (.bool false) (k := ?_)
      refine WL.op (d := 61) (.bool false) (k := ?_)
      refine WL.skip (d := 62) (k := ?_)
      refine WL.skip (d := 63) (k := ?_)
      refine WL.skip (d := 64) (k := ?_)
      refine WL.skip (d := 65) (k := ?_)
      refine WL.op (d := 66) (.bool false) (k := ?_)
      refine WL.op (d := 67) (.bool false) (k := ?_)
      refine WL.skip (d := 68) (k := ?_)
      refine WL.skip (d := 69) (k := ?_)
      refine WL.op (d := 70) (.bool false) (k := ?_)
      refine WL.op (d := 4) (.bool false) (k := ?_)
      refine WL.nil ?_
      refine WX.seqN ?_
      refine WC.ret ?_
      refine WX.ret (rs := [.tmp 4]) [.bool false] (.bool false) ⟨(by kernel_rfl), trivial⟩ (k := ?_)
      exact absurd (back_at hu2) ph50
  · have ph49 := of_decide_eq_false h49
    refine WL.rw (t := 48) (v := .bool false) (congrArg Value.bool h49) (k := ?_)
    refine WL.skip (d := 49) (k := ?_)
    refine WL.skip (d := 50) (k := ?_)
    refine WL.skip (d := 51) (k := ?_)
    refine WL.skip (d := 52) (k := ?_)
    refine WL.op (d := 53) (.bool false) (k := ?_)
    refine WL.op (d := 54) (.bool false) (k := ?_)
    refine WL.skip (d := 55) (k := ?_)
    refine WL.skip (d := 56) (k := ?_)
    refine WL.op (d := 57) (.bool false) (k := ?_)
    refine WL.op (d := 58) (.bool false) (k := ?_)
    refine WL.skip (d := 59) (k := ?_)
    refine WL.op (d := 60) (.bool false) (k := ?_)
    refine WL.op (d := 61) (.bool false) (k := ?_)
    refine WL.skip (d := 62) (k := ?_)
    refine WL.skip (d := 63) (k := ?_)
    refine WL.skip (d := 64) (k := ?_)
    refine WL.skip (d := 65) (k := ?_)
    refine WL.op (d := 66) (.bool false) (k := ?_)
    refine WL.op (d := 67) (.bool false) (k := ?_)
    refine WL.skip (d := 68) (k := ?_)
    refine WL.skip (d := 69) (k := ?_)
    refine WL.op (d := 70) (.bool false) (k := ?_)
    refine WL.op (d := 4) (.bool false) (k := ?_)
    refine WL.nil ?_
    refine WX.seqN ?_
    refine WC.ret ?_
    refine WX.ret (rs := [.tmp 4]) [.bool false] (.bool false) ⟨(by kernel_rfl), trivial⟩ (k := ?_)
    exact absurd hu1 ph49

end Go.Proofs.Ytfpdfjbooalgjaa
