/- Logs: the laws. -/
import Derived.Test.YtdoenmokahbeaaaGreatDoorWlB
namespace Go.Proofs.YtdoenmokahbeaaaGreatDoor
open Go.RowKit
set_option linter.unusedVariables false
set_option linter.unusedSimpArgs false

set_option maxRecDepth 100000 in
theorem l07short_c (l : List UInt8) (n : Nat) (hn : n ≤ 1000000) (hl : l.length ≤ 9223372036854775807) (w : World) : Calls Tryz.prog 13 #[.string ⟨l.toArray⟩, .int .i64 (n : Int)] w fun e w' => ∃ l' : List UInt8, l'.length ≤ n ∧ e = .returned (.string ⟨l'.toArray⟩) ∧ Adds w w' := by
  have K : Keeps (fun _ => False) w w := Keeps.refl _ w
  refine Calls.start Tryz.func13 rfl (by kernel_rfl) ?_
  refine WC.seq ?_
  refine WC.region ?_
  refine WL.op (d := 4) (.string ⟨#[]⟩) (k := ?_)
  refine WL.nil ?_
  refine WX.seqN ?_
  refine WC.seq ?_
  refine WC.seq ?_
  refine WC.region ?_
  refine WL.op (d := 5) (.string ⟨(l).toArray⟩) (k := ?_)
  refine WL.op (d := 6) (.int .i64 (l.length : Int)) (k := ?_)
  refine WL.op (d := 7) (.int .i64 (n : Int)) (k := ?_)
  refine WL.op (d := 8) (.bool (decide ((l.length : Int) > (n : Int)))) (k := ?_)
  refine WL.nil ?_
  refine WX.seqN ?_
  refine WC.cond (b := decide ((l.length : Int) > (n : Int))) (ht := fun h1 => ?_) (hf := fun h1 => ?_)
  · have ph1 := of_decide_eq_true h1
    refine WC.seq ?_
    refine WC.region ?_
    refine WL.op (d := 9) (.string ⟨(l).toArray⟩) (k := ?_)
    refine WL.op (d := 10) (.int .i64 (n : Int)) (k := ?_)
    refine WL.cut (d := 11) (vx := .string ⟨(l).toArray⟩) (lo' := none) (hi' := (some (.int .i64 (n : Int)))) (mx' := none) (v := .string ⟨(List.take n l).toArray⟩) (run_cut (P := Tryz.prog) (w := w) (lo := none) (hi := (some (.int .i64 (n : Int)))) (T := 9) (a := 0) (b := n) (l := l) (by kernel_rfl) (.inl ⟨rfl, rfl⟩) (.inr ⟨_, _, rfl, by omega⟩) (by first | omega | (simp; omega)) (by first | omega | (simp; omega))) (k := ?_)
    refine WL.op (d := 4) (.string ⟨(List.take n l).toArray⟩) (k := ?_)
    refine WL.nil ?_
    refine WX.seqN ?_
    refine WC.ret ?_
    refine WX.seqR ?_
    refine WX.ret (rs := [.tmp 4]) [.string ⟨(List.take n l).toArray⟩] (.string ⟨(List.take n l).toArray⟩) ⟨(by kernel_rfl), trivial⟩ (k := ?_)
    exact ⟨_, (by simp <;> omega), rfl, K⟩
  · have ph1 := of_decide_eq_false h1
    refine WC.skip ?_
    refine WX.seqN ?_
    refine WC.seq ?_
    refine WC.region ?_
    refine WL.op (d := 12) (.string ⟨(l).toArray⟩) (k := ?_)
    refine WL.op (d := 4) (.string ⟨(l).toArray⟩) (k := ?_)
    refine WL.nil ?_
    refine WX.seqN ?_
    refine WC.ret ?_
    refine WX.ret (rs := [.tmp 4]) [.string ⟨(l).toArray⟩] (.string ⟨(l).toArray⟩) ⟨(by kernel_rfl), trivial⟩ (k := ?_)
    exact ⟨_, (by omega), rfl, K⟩

theorem l07aw1 (rd : Int) : ∃ r, scanGo 1 1 (3 : Int).toNat (⟨List.set (List.set (List.replicate 4 (List.replicate 64 (0 : UInt8))) 1 (makeS [97] 1 0)) 2 (makeS [98] 1 1), [], 0, rd⟩ : GDisk) [] = (([[97], [98]] : List (List UInt8)), 0, ⟨List.set (List.set (List.replicate 4 (List.replicate 64 (0 : UInt8))) 1 (makeS [97] 1 0)) 2 (makeS [98] 1 1), [], 0, r⟩) := by
  refine scan_good0 (at_ := 1) (e := 1) (n := 3) (xs := [[97], [98]]) (by decide) (by decide) (by decide) (by decide) (by decide) ⟨rfl, rfl⟩ (by simp) (fun i x hx => ?_) (.inr ?_)
  · match i with
    | 0 => simp at hx; subst hx; exact ⟨rfl, by decide⟩
    | 1 => simp at hx; subst hx; exact ⟨rfl, by decide⟩
    | i + 2 => simp at hx
  · exact recS_zero (by decide)
theorem l07aw2 (rd : Int) : ∃ r, scanGo 1 2 (3 : Int).toNat (⟨List.set (List.set (List.replicate 4 (List.replicate 64 (0 : UInt8))) 1 (makeS [97] 1 0)) 2 (makeS [98] 1 1), [], 0, rd⟩ : GDisk) [] = (([] : List (List UInt8)), 0, ⟨List.set (List.set (List.replicate 4 (List.replicate 64 (0 : UInt8))) 1 (makeS [97] 1 0)) 2 (makeS [98] 1 1), [], 0, r⟩) := by
  refine scan_good0 (at_ := 1) (e := 2) (n := 3) (xs := []) (by decide) (by decide) (by decide) (by decide) (by decide) ⟨rfl, rfl⟩ (by simp) (fun i x hx => by simp at hx) (.inr ?_)
  show ¬ recS (makeS [97] 1 0) 2 0
  rw [recS_mk (by decide) (by decide) (by decide)]; omega

set_option maxRecDepth 100000 in
set_option maxHeartbeats 4000000 in
theorem l07awake_c (w : World) : Calls Tryz.prog 7 #[] w fun e w' => e = .returned (.bool true) ∧ Adds w w' := by
  have K : Keeps (fun _ => False) w w := Keeps.refl _ w
  refine Calls.start Tryz.func7 rfl (by kernel_rfl) ?_
  refine WC.seq ?_
  refine WC.region ?_
  refine WL.op (d := 0) (.bool false) (k := ?_)
  refine WL.nil ?_
  refine WX.seqN ?_
  refine WC.seq ?_
  refine WC.region ?_
  refine WL.callG (d := 9) (f := 8) (args := #[.int .i64 4]) (dNew_ok (n := 4) (by omega) (by omega) w) (k := fun e_ w1 h_ => ?_)
  obtain ⟨b2, S3, rfl, g4, hd5, ho6, k7⟩ := h_
  refine ⟨_, rfl, ?_⟩
  have lk8 : ∀ k, S3 k → False ∨ w.heap.size ≤ k := fun k h => .inr (Nat.le_trans K.size (ho6 k h))
  have z9 := Nat.le_trans K.size g4
  replace K := K.trans (k7.any _)
  change DiskAt S3 b2 (⟨List.replicate 4 (List.replicate 64 (0 : UInt8)), [], 0, 0⟩ : GDisk) w1 at hd5
  have ln10 : (List.replicate 4 (List.replicate 64 (0 : UInt8))).length = 4 := List.length_replicate
  have ln11 : (GDisk.secs (⟨List.replicate 4 (List.replicate 64 (0 : UInt8)), [], 0, 0⟩ : GDisk)).length = 4 := List.length_replicate
  refine WL.callG (d := 10) (f := 9) (args := #[.pointer (some ⟨b2, 0, none⟩), .int .i64 1, .int .i64 3]) (wlNew_ok (at_ := 1) (n := 3) hd5 (by omega) (by omega) ⟨by decide, by decide, by simp⟩) (k := fun e_ w12 h_ => ?_)
  obtain ⟨b13, rfl, g14, hb15, k16⟩ := h_
  refine ⟨_, rfl, ?_⟩
  have z17 := Nat.le_trans K.size g14
  have n18 : ¬ S3 b13 := fun h => absurd (hd5.lt _ h) (Nat.not_lt.2 g14)
  replace hd5 := hd5.adds k16
  replace K := K.trans (k16.any _)
  refine WL.op (d := 1) (.pointer (some ⟨b13, 0, none⟩)) (k := ?_)
  refine WL.nil ?_
  refine WX.seqN ?_
  refine WC.seq ?_
  refine WC.seq ?_
  refine WC.region ?_
  refine WL.op (d := 11) (.pointer (some ⟨b13, 0, none⟩)) (k := ?_)
  refine WL.op (d := 12) (.bool false) (k := ?_)
  refine WL.nil ?_
  refine WX.seqN ?_
  refine WC.condF (k := ?_)
  refine WC.skip ?_
  refine WX.seqN ?_
  refine WC.seq ?_
  refine WC.region ?_
  refine WL.op (d := 13) (.pointer (some ⟨b13, 0, none⟩)) (k := ?_)
  refine WL.callG (d := 14) (f := 10) (args := #[.pointer (some ⟨b13, 0, none⟩), .int .u64 1]) (wlStart_ok (e := 1) hb15 (by omega)) (k := fun e_ w19 h_ => ?_)
  obtain ⟨rfl, hb20, k21⟩ := h_
  refine ⟨_, rfl, ?_⟩
  replace hd5 := hd5.keeps k21 (fun i hi e => n18 (e ▸ hi))
  replace K := K.trans' k21 (fun i hi e => absurd (e ▸ hi) (Nat.not_lt.2 z17))
  clear hb15
  refine WL.op (d := 2) (.int .i64 0) (k := ?_)
  refine WL.nil ?_
  refine WX.seqN ?_
  refine WC.seq ?_
  refine WC.region ?_
  refine WL.op (d := 15) (.pointer (some ⟨b13, 0, none⟩)) (k := ?_)
  refine WL.callG (d := 16) (f := 11) (args := #[.pointer (some ⟨b13, 0, none⟩), .string ⟨#[97]⟩]) (wlAppend_good (l := [97]) (e := 1) (r := 0) hb20 hd5 n18 (by show List.length [97] ≤ 43; first | omega | (simp; done) | (simp; omega)) (by omega) (by omega) (by omega) (by omega) (by omega) (by omega) (by omega)) (k := fun e_ w22 h_ => ?_)
  obtain ⟨S23, rfl, hb24, hd25, lk26, n27, k28⟩ := h_
  refine ⟨_, rfl, ?_⟩
  have lk29 := lk_step lk8 lk26 K
  replace K := K.trans' k28 (fun i hi e => e.elim (fun e => absurd (e ▸ hi) (Nat.not_lt.2 z17)) (fun e => (lk8 i e).elim (fun h => h.elim) (fun h => absurd hi (Nat.not_lt.2 h))))
  clear hb20
  clear hd5
  change DiskAt S23 b2 (⟨List.set (List.replicate 4 (List.replicate 64 (0 : UInt8))) 1 (makeS [97] 1 0), [], 0, 0⟩ : GDisk) w22 at hd25
  have ln30 : (List.set (List.replicate 4 (List.replicate 64 (0 : UInt8))) 1 (makeS [97] 1 0)).length = List.length (List.replicate 4 (List.replicate 64 (0 : UInt8))) := List.length_set ..
  refine WL.op (d := 3) (.int .i64 0) (k := ?_)
  refine WL.nil ?_
  refine WX.seqN ?_
  refine WC.seq ?_
  refine WC.region ?_
  refine WL.op (d := 17) (.pointer (some ⟨b13, 0, none⟩)) (k := ?_)
  refine WL.callG (d := 18) (f := 11) (args := #[.pointer (some ⟨b13, 0, none⟩), .string ⟨#[98]⟩]) (wlAppend_good (l := [98]) (e := 1) (r := 1) hb24 hd25 n27 (by show List.length [98] ≤ 43; first | omega | (simp; done) | (simp; omega)) (by omega) (by omega) (by omega) (by omega) (by omega) (by omega) (by omega)) (k := fun e_ w31 h_ => ?_)
  obtain ⟨S32, rfl, hb33, hd34, lk35, n36, k37⟩ := h_
  refine ⟨_, rfl, ?_⟩
  have lk38 := lk_step lk29 lk35 K
  replace K := K.trans' k37 (fun i hi e => e.elim (fun e => absurd (e ▸ hi) (Nat.not_lt.2 z17)) (fun e => (lk29 i e).elim (fun h => h.elim) (fun h => absurd hi (Nat.not_lt.2 h))))
  clear hb24
  clear hd25
  change DiskAt S32 b2 (⟨List.set (List.set (List.replicate 4 (List.replicate 64 (0 : UInt8))) 1 (makeS [97] 1 0)) 2 (makeS [98] 1 1), [], 0, 0⟩ : GDisk) w31 at hd34
  have ln39 : (List.set (List.set (List.replicate 4 (List.replicate 64 (0 : UInt8))) 1 (makeS [97] 1 0)) 2 (makeS [98] 1 1)).length = List.length (List.set (List.replicate 4 (List.replicate 64 (0 : UInt8))) 1 (makeS [97] 1 0)) := List.length_set ..
  refine WL.op (d := 4) (.int .i64 0) (k := ?_)
  refine WL.nil ?_
  refine WX.seqN ?_
  refine WC.seq ?_
  refine WC.region ?_
  refine WL.op (d := 20) (.pointer (some ⟨b13, 0, none⟩)) (k := ?_)
  obtain ⟨r40, hs41⟩ : ∃ r, scanGo 1 1 (3 : Int).toNat (⟨List.set (List.set (List.replicate 4 (List.replicate 64 (0 : UInt8))) 1 (makeS [97] 1 0)) 2 (makeS [98] 1 1), [], 0, 0⟩ : GDisk) [] = (([[97], [98]] : List (List UInt8)), 0, ⟨List.set (List.set (List.replicate 4 (List.replicate 64 (0 : UInt8))) 1 (makeS [97] 1 0)) 2 (makeS [98] 1 1), [], 0, r⟩) := l07aw1 _
  refine WL.callG (d := 21) (f := 15) (args := #[.pointer (some ⟨b13, 0, none⟩), .int .u64 1]) (wlScan_good (e := 1) (xs := ([[97], [98]] : List (List UInt8))) hb33 hd34 n36 (by omega) (by omega) (by omega) (by omega) (by omega) hs41) (k := fun e_ w42 h_ => ?_)
  obtain ⟨A43, c44, rfl, hb45, ho46, ol47, hd48, n49, k50⟩ := h_
  refine ⟨_, rfl, ?_⟩
  have ol51 := fun i h => Nat.le_trans K.size (ol47 i h)
  have ln52 : List.length ([[97], [98]] : List (List UInt8)) = 2 := rfl
  replace K := K.trans' k50 (fun i hi e => e.elim (fun e => absurd (e ▸ hi) (Nat.not_lt.2 z17)) (fun e => (lk38 i e).elim (fun h => h.elim) (fun h => absurd hi (Nat.not_lt.2 h))))
  clear hb33
  clear hd34 ol47
  refine WL.op (d := 19) (.tuple #[.slice A43 2 c44, .int .i64 0]) (k := ?_)
  refine WL.op (d := 22) (.slice A43 2 c44) (k := ?_)
  refine WL.op (d := 23) (.int .i64 0) (k := ?_)
  refine WL.op (d := 5) (.slice A43 2 c44) (k := ?_)
  refine WL.op (d := 6) (.int .i64 0) (k := ?_)
  refine WL.nil ?_
  refine WX.seqN ?_
  refine WC.seq ?_
  refine WC.region ?_
  refine WL.op (d := 25) (.pointer (some ⟨b13, 0, none⟩)) (k := ?_)
  obtain ⟨r53, hs54⟩ : ∃ r, scanGo 1 2 (3 : Int).toNat (⟨List.set (List.set (List.replicate 4 (List.replicate 64 (0 : UInt8))) 1 (makeS [97] 1 0)) 2 (makeS [98] 1 1), [], 0, r40⟩ : GDisk) [] = (([] : List (List UInt8)), 0, ⟨List.set (List.set (List.replicate 4 (List.replicate 64 (0 : UInt8))) 1 (makeS [97] 1 0)) 2 (makeS [98] 1 1), [], 0, r⟩) := l07aw2 _
  refine WL.callG (d := 26) (f := 15) (args := #[.pointer (some ⟨b13, 0, none⟩), .int .u64 2]) (wlScan_good (e := 2) (xs := ([] : List (List UInt8))) hb45 hd48 n36 (by omega) (by omega) (by omega) (by omega) (by omega) hs54) (k := fun e_ w55 h_ => ?_)
  obtain ⟨A56, c57, rfl, hb58, ho59, ol60, hd61, n62, k63⟩ := h_
  refine ⟨_, rfl, ?_⟩
  have ol64 := fun i h => Nat.le_trans K.size (ol60 i h)
  have ln65 : List.length ([] : List (List UInt8)) = 0 := rfl
  replace K := K.trans' k63 (fun i hi e => e.elim (fun e => absurd (e ▸ hi) (Nat.not_lt.2 z17)) (fun e => (lk38 i e).elim (fun h => h.elim) (fun h => absurd hi (Nat.not_lt.2 h))))
  replace ho46 := ho46.keeps k63 (fun i hi h => h.elim (fun h => (ho46.offT hb45 (by decide)) (h ▸ hi)) (n49 i hi))
  clear hb45
  clear hd48 ol60
  refine WL.op (d := 24) (.tuple #[.slice A56 0 c57, .int .i64 0]) (k := ?_)
  refine WL.op (d := 27) (.slice A56 0 c57) (k := ?_)
  refine WL.op (d := 28) (.int .i64 0) (k := ?_)
  refine WL.op (d := 7) (.slice A56 0 c57) (k := ?_)
  refine WL.op (d := 8) (.int .i64 0) (k := ?_)
  refine WL.nil ?_
  refine WX.seqN ?_
  refine WC.seq ?_
  refine WC.region ?_
  refine WL.op (d := 29) (.int .i64 0) (k := ?_)
  refine WL.op (d := 30) (.bool true) (k := ?_)
  refine WL.op (d := 31) (.bool true) (k := ?_)
  refine WL.op (d := 32) (.int .i64 0) (k := ?_)
  refine WL.op (d := 33) (.bool true) (k := ?_)
  refine WL.op (d := 34) (.bool true) (k := ?_)
  refine WL.op (d := 35) (.bool true) (k := ?_)
  refine WL.op (d := 36) (.int .i64 0) (k := ?_)
  refine WL.op (d := 37) (.bool true) (k := ?_)
  refine WL.op (d := 38) (.bool true) (k := ?_)
  refine WL.op (d := 39) (.bool true) (k := ?_)
  refine WL.op (d := 40) (.int .i64 0) (k := ?_)
  refine WL.op (d := 41) (.bool true) (k := ?_)
  refine WL.op (d := 42) (.bool true) (k := ?_)
  refine WL.op (d := 43) (.bool true) (k := ?_)
  refine WL.op (d := 44) (.int .i64 0) (k := ?_)
  refine WL.op (d := 45) (.bool true) (k := ?_)
  refine WL.op (d := 46) (.bool true) (k := ?_)
  refine WL.op (d := 47) (.bool true) (k := ?_)
  refine WL.op (d := 48) (.slice A43 2 c44) (k := ?_)
  refine WL.op (d := 49) (.int .i64 2) (k := ?_)
  refine WL.op (d := 50) (.bool true) (k := ?_)
  refine WL.op (d := 51) (.bool true) (k := ?_)
  refine WL.op (d := 52) (.bool true) (k := ?_)
  refine WL.op (d := 53) (.slice A43 2 c44) (k := ?_)
  obtain ⟨b66, o67, r68, hr69, hA70, he71⟩ := SlAt.at (ho46.sl ekStr) (i := 0) (by omega) (by omega)
  refine WL.rw (t := 53) (v := .slice (some ⟨b66, o67, none⟩) 2 c44) (congrArg (fun a => Value.slice a 2 c44) hA70) (k := ?_)
  refine WL.idx (T := 34) (E := 9) (m := 1) (b := b66) (o := o67) (len := 2) (cap := c44) (i := 0) (kk := .i64) (d := 54) (by omega) (by omega) (k := ?_)
  refine WL.rw (t := 53) (v := .slice A43 2 c44) (congrArg (fun a => Value.slice a 2 c44) (Eq.symm hA70)) (k := ?_)
  refine WL.load (v := .string ⟨(r68).toArray⟩) (he71.ld0 (T := 9)) (k := ?_)
  refine WL.opE (d := 56) (.bool (ByteArray.toList ⟨(r68).toArray⟩ == ByteArray.toList ⟨([97]).toArray⟩)) (v := .bool (decide (r68 = [97]))) (str_eql _ _) (k := ?_)
  refine WL.op (d := 57) (.bool (decide (r68 = [97]))) (k := ?_)
  refine WL.op (d := 58) (.bool (decide (r68 = [97]))) (k := ?_)
  refine bsplit (decide (r68 = [97])) (fun h72 => ?_) (fun h72 => ?_)
  · have ph72 := of_decide_eq_true h72
    refine WL.rw (t := 58) (v := .bool true) (congrArg Value.bool h72) (k := ?_)
    refine WL.op (d := 59) (.slice A43 2 c44) (k := ?_)
    obtain ⟨b73, o74, r75, hr76, hA77, he78⟩ := SlAt.at (ho46.sl ekStr) (i := 1) (by omega) (by omega)
    refine WL.rw (t := 59) (v := .slice (some ⟨b73, o74, none⟩) 2 c44) (congrArg (fun a => Value.slice a 2 c44) hA77) (k := ?_)
    refine WL.idx (T := 34) (E := 9) (m := 1) (b := b73) (o := o74) (len := 2) (cap := c44) (i := 1) (kk := .i64) (d := 60) (by omega) (by omega) (k := ?_)
    refine WL.rw (t := 59) (v := .slice A43 2 c44) (congrArg (fun a => Value.slice a 2 c44) (Eq.symm hA77)) (k := ?_)
    refine WL.load (v := .string ⟨(r75).toArray⟩) (he78.ld0 (T := 9)) (k := ?_)
    refine WL.opE (d := 62) (.bool (ByteArray.toList ⟨(r75).toArray⟩ == ByteArray.toList ⟨([98]).toArray⟩)) (v := .bool (decide (r75 = [98]))) (str_eql _ _) (k := ?_)
    refine WL.op (d := 63) (.bool (decide (r75 = [98]))) (k := ?_)
    refine WL.op (d := 64) (.bool (decide (r75 = [98]))) (k := ?_)
    refine bsplit (decide (r75 = [98])) (fun h79 => ?_) (fun h79 => ?_)
    · have ph79 := of_decide_eq_true h79
      refine WL.rw (t := 64) (v := .bool true) (congrArg Value.bool h79) (k := ?_)
      refine WL.op (d := 65) (.slice A56 0 c57) (k := ?_)
      refine WL.op (d := 66) (.int .i64 0) (k := ?_)
      refine WL.op (d := 67) (.bool true) (k := ?_)
      refine WL.op (d := 68) (.bool true) (k := ?_)
      refine WL.op (d := 0) (.bool true) (k := ?_)
      refine WL.nil ?_
      refine WX.seqN ?_
      refine WC.ret ?_
      refine WX.ret (rs := [.tmp 0]) [.bool true] (.bool true) ⟨(by kernel_rfl), trivial⟩ (k := ?_)
      exact ⟨rfl, K⟩
    · have ph79 := of_decide_eq_false h79
      refine WL.rw (t := 64) (v := .bool false) (congrArg Value.bool h79) (k := ?_)
      refine WL.skip (d := 65) (k := ?_)
      refine WL.skip (d := 66) (k := ?_)
      refine WL.skip (d := 67) (k := ?_)
      refine WL.op (d := 68) (.bool false) (k := ?_)
      refine WL.op (d := 0) (.bool false) (k := ?_)
      refine WL.nil ?_
      refine WX.seqN ?_
      refine WC.ret ?_
      refine WX.ret (rs := [.tmp 0]) [.bool false] (.bool false) ⟨(by kernel_rfl), trivial⟩ (k := ?_)
      exact absurd (Option.some.inj (show some [98] = some r75 from hr76)).symm ph79
  · have ph72 := of_decide_eq_false h72
    refine WL.rw (t := 58) (v := .bool false) (congrArg Value.bool h72) (k := ?_)
    refine WL.skip (d := 59) (k := ?_)
    refine WL.skip (d := 60) (k := ?_)
    refine WL.skip (d := 61) (k := ?_)
    refine WL.skip (d := 62) (k := ?_)
    refine WL.op (d := 63) (.bool false) (k := ?_)
    refine WL.op (d := 64) (.bool false) (k := ?_)
    refine WL.skip (d := 65) (k := ?_)
    refine WL.skip (d := 66) (k := ?_)
    refine WL.skip (d := 67) (k := ?_)
    refine WL.op (d := 68) (.bool false) (k := ?_)
    refine WL.op (d := 0) (.bool false) (k := ?_)
    refine WL.nil ?_
    refine WX.seqN ?_
    refine WC.ret ?_
    refine WX.ret (rs := [.tmp 0]) [.bool false] (.bool false) ⟨(by kernel_rfl), trivial⟩ (k := ?_)
    exact absurd (Option.some.inj (show some [97] = some r68 from hr69)).symm ph72

theorem ite_ex (c : Prop) [Decidable c] (x y : Int) : ∃ q : Int, (if c then x else y) = q ∧ (c ∧ q = x ∨ ¬ c ∧ q = y) := by
  by_cases h : c
  · exact ⟨x, if_pos h, .inl ⟨h, rfl⟩⟩
  · exact ⟨y, if_neg h, .inr ⟨h, rfl⟩⟩
theorem and7_rng (x : Int) : 0 ≤ bits .and .i64 x 7 ∧ bits .and .i64 x 7 ≤ 7 := by
  have h : (BitVec.ofInt 64 x &&& BitVec.ofInt 64 7).toNat = (BitVec.ofInt 64 x).toNat % 8 := by rw [BitVec.toNat_and, show (BitVec.ofInt 64 7).toNat = 2 ^ 3 - 1 from rfl, Nat.and_two_pow_sub_one_eq_mod]
  have e : bits .and .i64 x 7 = IntKind.wrap .i64 ((BitVec.ofInt 64 x &&& BitVec.ofInt 64 7).toNat : Int) := rfl
  rw [e, h]
  have hl := Nat.mod_lt (BitVec.ofInt 64 x).toNat (show 0 < 8 by decide)
  rw [IntWalk.i64_in _ (by omega)]
  omega

end Go.Proofs.YtdoenmokahbeaaaGreatDoor
