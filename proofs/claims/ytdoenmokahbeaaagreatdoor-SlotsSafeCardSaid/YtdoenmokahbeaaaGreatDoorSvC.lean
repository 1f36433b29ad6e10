/- Sv7, Sv8, Sv9: one behind the other. -/
import Derived.Test.YtdoenmokahbeaaaGreatDoorSvB
import Derived.Test.YtdoenmokahbeaaaGreatDoorCk1
namespace Go.Proofs.YtdoenmokahbeaaaGreatDoor
open Go.RowKit
set_option linter.unusedVariables false
set_option linter.unusedSimpArgs false

set_option maxRecDepth 100000 in
theorem l06short_c (l : List UInt8) (n : Nat) (hn : n ≤ 1000000) (hl : l.length ≤ 9223372036854775807) (w : World) : Calls Tryz.prog 33 #[.string ⟨l.toArray⟩, .int .i64 (n : Int)] w fun e w' => e = .returned (.string ⟨(List.take n l).toArray⟩) ∧ Adds w w' := by
  have K : Keeps (fun _ => False) w w := Keeps.refl _ w
  refine Calls.start Tryz.func33 rfl (by kernel_rfl) ?_
  refine WC.seq ?_
  refine WC.region ?_
  refine WL.op (d := 4) (.string ⟨#[]⟩) (k := ?_)
  refine WL.nil ?_
  refine WX.seqN ?_
  refine WC.seq ?_
  refine WC.seq ?_
  refine WC.region ?_
  refine WL.op (d := 5) (.string ⟨(l).toArray⟩) (k := ?_)
  refine WL.op (d := 6) (.int .i64 (l.length : Int)) (k := ?_)
  refine WL.op (d := 7) (.int .i64 (n : Int)) (k := ?_)
  refine WL.op (d := 8) (.bool (decide ((l.length : Int) > (n : Int)))) (k := ?_)
  refine WL.nil ?_
  refine WX.seqN ?_
  refine WC.cond (b := decide ((l.length : Int) > (n : Int))) (ht := fun h1 => ?_) (hf := fun h1 => ?_)
  · have ph1 := of_decide_eq_true h1
    refine WC.seq ?_
    refine WC.region ?_
    refine WL.op (d := 9) (.string ⟨(l).toArray⟩) (k := ?_)
    refine WL.op (d := 10) (.int .i64 (n : Int)) (k := ?_)
    refine WL.cut (d := 11) (vx := .string ⟨(l).toArray⟩) (lo' := none) (hi' := (some (.int .i64 (n : Int)))) (mx' := none) (v := .string ⟨(List.take n l).toArray⟩) (run_cut (P := Tryz.prog) (w := w) (lo := none) (hi := (some (.int .i64 (n : Int)))) (T := 9) (a := 0) (b := n) (l := l) (by kernel_rfl) (.inl ⟨rfl, rfl⟩) (.inr ⟨_, _, rfl, by omega⟩) (by first | omega | (simp; omega)) (by first | omega | (simp; omega))) (k := ?_)
    refine WL.op (d := 4) (.string ⟨(List.take n l).toArray⟩) (k := ?_)
    refine WL.nil ?_
    refine WX.seqN ?_
    refine WC.ret ?_
    refine WX.seqR ?_
    refine WX.ret (rs := [.tmp 4]) [.string ⟨(List.take n l).toArray⟩] (.string ⟨(List.take n l).toArray⟩) ⟨(by kernel_rfl), trivial⟩ (k := ?_)
    exact ⟨rfl, K⟩
  · have ph1 := of_decide_eq_false h1
    refine WC.skip ?_
    refine WX.seqN ?_
    refine WC.seq ?_
    refine WC.region ?_
    refine WL.op (d := 12) (.string ⟨(l).toArray⟩) (k := ?_)
    refine WL.op (d := 4) (.string ⟨(l).toArray⟩) (k := ?_)
    refine WL.nil ?_
    refine WX.seqN ?_
    refine WC.ret ?_
    refine WX.ret (rs := [.tmp 4]) [.string ⟨(l).toArray⟩] (.string ⟨(l).toArray⟩) ⟨(by kernel_rfl), trivial⟩ (k := ?_)
    exact ⟨by rw [List.take_of_length_le (by omega)], K⟩

set_option maxRecDepth 100000 in
set_option maxHeartbeats 4000000 in
theorem l06awake_c (w : World) : Calls Tryz.prog 30 #[] w fun e w' => e = .returned (.bool true) ∧ Adds w w' := by
  have K : Keeps (fun _ => False) w w := Keeps.refl _ w
  refine Calls.start Tryz.func30 rfl (by kernel_rfl) ?_
  refine WC.seq ?_
  refine WC.region ?_
  refine WL.op (d := 0) (.bool false) (k := ?_)
  refine WL.nil ?_
  refine WX.seqN ?_
  refine WC.seq ?_
  refine WC.region ?_
  refine WL.callG (d := 10) (f := 8) (args := #[.int .i64 4]) (dNew_ok (n := 4) (by omega) (by omega) w) (k := fun e_ w1 h_ => ?_)
  obtain ⟨b2, S3, rfl, g4, hd5, ho6, k7⟩ := h_
  refine ⟨_, rfl, ?_⟩
  have lk8 : ∀ k, S3 k → False ∨ w.heap.size ≤ k := fun k h => .inr (Nat.le_trans K.size (ho6 k h))
  have z9 := Nat.le_trans K.size g4
  replace K := K.trans (k7.any _)
  change DiskAt S3 b2 (⟨duo 0 [] 0 [], [], 0, 0⟩ : GDisk) w1 at hd5
  have ln10 : (GDisk.secs (⟨duo 0 [] 0 [], [], 0, 0⟩ : GDisk)).length = 4 := rfl
  refine WL.callG (d := 11) (f := 31) (args := #[.pointer (some ⟨b2, 0, none⟩), .int .i64 0, .int .i64 2]) (svNew_ok (at_ := 0) (k := 2) hd5 (by omega) (by omega) ⟨by decide, by decide, by decide, by show (0 : Int) ≤ ((duo 0 [] 0 []).length : Int) - 2 * 2; rw [duo_len]; decide⟩) (k := fun e_ w11 h_ => ?_)
  obtain ⟨b12, rfl, g13, hb14, k15⟩ := h_
  refine ⟨_, rfl, ?_⟩
  have z16 := Nat.le_trans K.size g13
  have n17 : ¬ S3 b12 := fun h => absurd (hd5.lt _ h) (Nat.not_lt.2 g13)
  replace hd5 := hd5.adds k15
  replace K := K.trans (k15.any _)
  refine WL.op (d := 1) (.pointer (some ⟨b12, 0, none⟩)) (k := ?_)
  refine WL.nil ?_
  refine WX.seqN ?_
  refine WC.seq ?_
  refine WC.seq ?_
  refine WC.region ?_
  refine WL.op (d := 12) (.pointer (some ⟨b12, 0, none⟩)) (k := ?_)
  refine WL.op (d := 13) (.bool false) (k := ?_)
  refine WL.nil ?_
  refine WX.seqN ?_
  refine WC.condF (k := ?_)
  refine WC.skip ?_
  refine WX.seqN ?_
  refine WC.seq ?_
  refine WC.region ?_
  refine WL.op (d := 15) (.pointer (some ⟨b12, 0, none⟩)) (k := ?_)
  refine WL.callG (d := 16) (f := 32) (args := #[.pointer (some ⟨b12, 0, none⟩)]) (svRead_none hb14 hd5 n17) (k := fun e_ w18 h_ => ?_)
  obtain ⟨rd19, rfl, hb20, hd21, k22⟩ := h_
  refine ⟨_, rfl, ?_⟩
  replace K := K.trans' k22 (fun i hi e => e.elim (fun e => absurd (e ▸ hi) (Nat.not_lt.2 z16)) (fun e => (lk8 i e).elim (fun h => h.elim) (fun h => absurd hi (Nat.not_lt.2 h))))
  clear hb14 hd5
  refine WL.op (d := 14) (.tuple #[.agg #[.int .u64 0, .string ⟨#[]⟩], .bool false, .int .i64 0]) (k := ?_)
  refine WL.op (d := 17) (.agg #[.int .u64 0, .string ⟨#[]⟩]) (k := ?_)
  refine WL.op (d := 18) (.bool false) (k := ?_)
  refine WL.op (d := 19) (.int .i64 0) (k := ?_)
  refine WL.new (d := 2) (T := 61) #[.int .u64 0, .string ⟨#[]⟩] (k := fun b23 w24 g25 hb26 k27 => ?_)
  have z28 := Nat.le_trans K.size g25
  have n29 : ¬ S3 b23 := fun h => absurd (hd21.lt _ h) (Nat.not_lt.2 g25)
  have n30 : b12 ≠ b23 := Nat.ne_of_lt (Nat.lt_of_lt_of_le (lt_of_heap hb20) g25)
  replace hd21 := hd21.adds k27
  replace hb20 := k27.heap hb20 id
  replace K := K.trans (k27.any _)
  refine WL.store (v := .agg #[.int .u64 0, .string ⟨#[]⟩]) (i := 0) (cs' := #[.int .u64 0, .string ⟨#[]⟩]) hb26 (k := fun w31 hb32 k33 => ?_)
  replace hd21 := hd21.keeps k33 (fun i hi e => n29 (e ▸ hi))
  replace hb20 := k33.heap hb20 n30
  replace K := K.trans' k33 (fun i hi e => absurd (e ▸ hi) (Nat.not_lt.2 z28))
  clear hb26
  refine WL.op (d := 3) (.bool false) (k := ?_)
  refine WL.op (d := 4) (.int .i64 0) (k := ?_)
  refine WL.nil ?_
  refine WX.seqN ?_
  refine WC.seq ?_
  refine WC.region ?_
  refine WL.op (d := 21) (.pointer (some ⟨b12, 0, none⟩)) (k := ?_)
  refine WL.callG (d := 22) (f := 34) (args := #[.pointer (some ⟨b12, 0, none⟩), .string ⟨#[97]⟩]) (svWrite_first (l := [97]) (nw := 0) (la := -1) hb20 hd21 n17 (by show List.length [97] ≤ 86; first | omega | (simp; done) | (simp; omega)) (by omega) (by decide)) (k := fun e_ w34 h_ => ?_)
  obtain ⟨S35, rfl, hb36, hd37, lk38, n39, k40⟩ := h_
  refine ⟨_, rfl, ?_⟩
  have n41 : ¬ S35 b23 := fun h => (lk38 _ h).elim n29 (fun h2 => absurd (lt_of_heap hb32) (Nat.not_lt.2 h2))
  have lk42 := lk_step lk8 lk38 K
  replace K := K.trans' k40 (fun i hi e => e.elim (fun e => absurd (e ▸ hi) (Nat.not_lt.2 z16)) (fun e => (lk8 i e).elim (fun h => h.elim) (fun h => absurd hi (Nat.not_lt.2 h))))
  replace hb32 := k40.heap hb32 (not_or.2 ⟨Ne.symm n30, n29⟩)
  clear hb20 hd21
  have ll_ : List.length [97] ≤ 86 := (by show List.length [97] ≤ 86; first | omega | (simp; done) | (simp; omega))
  have ok43 : SlOk 2 (0 + 1) [97] := ⟨by omega, fun h => absurd h (by omega), by omega⟩
  refine WL.op (d := 20) (.tuple #[.int .u64 ((0 + 1 : Nat) : Int), .int .i64 0]) (k := ?_)
  refine WL.op (d := 23) (.int .u64 ((0 + 1 : Nat) : Int)) (k := ?_)
  refine WL.op (d := 24) (.int .i64 0) (k := ?_)
  refine WL.op (d := 5) (.int .u64 ((0 + 1 : Nat) : Int)) (k := ?_)
  refine WL.op (d := 6) (.int .i64 0) (k := ?_)
  refine WL.nil ?_
  refine WX.seqN ?_
  refine WC.seq ?_
  refine WC.region ?_
  refine WL.op (d := 26) (.pointer (some ⟨b12, 0, none⟩)) (k := ?_)
  refine WL.callG (d := 27) (f := 32) (args := #[.pointer (some ⟨b12, 0, none⟩)]) (svRead_first hb36 hd37 n39 ok43 slOk_zero (by omega)) (k := fun e_ w44 h_ => ?_)
  obtain ⟨rd45, rfl, hb46, hd47, k48⟩ := h_
  refine ⟨_, rfl, ?_⟩
  replace K := K.trans' k48 (fun i hi e => e.elim (fun e => absurd (e ▸ hi) (Nat.not_lt.2 z16)) (fun e => (lk42 i e).elim (fun h => h.elim) (fun h => absurd hi (Nat.not_lt.2 h))))
  replace hb32 := k48.heap hb32 (not_or.2 ⟨Ne.symm n30, n41⟩)
  clear hb36 hd37
  have h49 : decide (¬ (0 + 1) = 0) = true := decide_eq_true (by omega)
  have ph49 := of_decide_eq_true h49
  refine WL.op (d := 25) (.tuple #[.agg #[.int .u64 ((0 + 1 : Nat) : Int), .string ⟨#[97]⟩], .bool (decide (¬ (0 + 1) = 0)), .int .i64 0]) (k := ?_)
  refine WL.op (d := 28) (.agg #[.int .u64 ((0 + 1 : Nat) : Int), .string ⟨#[97]⟩]) (k := ?_)
  refine WL.op (d := 29) (.bool (decide (¬ (0 + 1) = 0))) (k := ?_)
  refine WL.op (d := 30) (.int .i64 0) (k := ?_)
  refine WL.new (d := 7) (T := 61) #[.int .u64 0, .string ⟨#[]⟩] (k := fun b50 w51 g52 hb53 k54 => ?_)
  have z55 := Nat.le_trans K.size g52
  have n56 : ¬ S35 b50 := fun h => absurd (hd47.lt _ h) (Nat.not_lt.2 g52)
  have n57 : b12 ≠ b50 := Nat.ne_of_lt (Nat.lt_of_lt_of_le (lt_of_heap hb46) g52)
  have n58 : b23 ≠ b50 := Nat.ne_of_lt (Nat.lt_of_lt_of_le (lt_of_heap hb32) g52)
  replace hd47 := hd47.adds k54
  replace hb46 := k54.heap hb46 id
  replace hb32 := k54.heap hb32 id
  replace K := K.trans (k54.any _)
  refine WL.store (v := .agg #[.int .u64 ((0 + 1 : Nat) : Int), .string ⟨#[97]⟩]) (i := 0) (cs' := #[.int .u64 ((0 + 1 : Nat) : Int), .string ⟨#[97]⟩]) hb53 (k := fun w59 hb60 k61 => ?_)
  replace hd47 := hd47.keeps k61 (fun i hi e => n56 (e ▸ hi))
  replace hb46 := k61.heap hb46 n57
  replace hb32 := k61.heap hb32 n58
  replace K := K.trans' k61 (fun i hi e => absurd (e ▸ hi) (Nat.not_lt.2 z55))
  clear hb53
  refine WL.op (d := 8) (.bool (decide (¬ (0 + 1) = 0))) (k := ?_)
  refine WL.op (d := 9) (.int .i64 0) (k := ?_)
  refine WL.nil ?_
  refine WX.seqN ?_
  refine WC.seq ?_
  refine WC.region ?_
  refine WL.op (d := 31) (.bool false) (k := ?_)
  refine WL.op (d := 32) (.bool true) (k := ?_)
  refine WL.op (d := 33) (.bool true) (k := ?_)
  refine WL.op (d := 34) (.int .i64 0) (k := ?_)
  refine WL.op (d := 35) (.bool true) (k := ?_)
  refine WL.op (d := 36) (.bool true) (k := ?_)
  refine WL.op (d := 37) (.bool true) (k := ?_)
  refine WL.op (d := 38) (.int .u64 ((0 + 1 : Nat) : Int)) (k := ?_)
  refine WL.op (d := 39) (.bool (((0 + 1 : Nat) : Int) == 1)) (k := ?_)
  refine WL.op (d := 40) (.bool (((0 + 1 : Nat) : Int) == 1)) (k := ?_)
  refine WL.op (d := 41) (.bool (((0 + 1 : Nat) : Int) == 1)) (k := ?_)
  refine bsplit (((0 + 1 : Nat) : Int) == 1) (fun h62 => ?_) (fun h62 => ?_)
  · have ph62 := eq_of_beq h62
    refine WL.rw (t := 41) (v := .bool true) (congrArg Value.bool h62) (k := ?_)
    refine WL.op (d := 42) (.int .i64 0) (k := ?_)
    refine WL.op (d := 43) (.bool true) (k := ?_)
    refine WL.op (d := 44) (.bool true) (k := ?_)
    refine WL.op (d := 45) (.bool true) (k := ?_)
    refine WL.op (d := 46) (.bool (decide (¬ (0 + 1) = 0))) (k := ?_)
    refine WL.op (d := 47) (.bool (decide (¬ (0 + 1) = 0))) (k := ?_)
    refine WL.op (d := 48) (.bool (decide (¬ (0 + 1) = 0))) (k := ?_)
    refine WL.rw (t := 48) (v := .bool true) (congrArg Value.bool h49) (k := ?_)
    refine WL.op (d := 49) (.int .i64 0) (k := ?_)
    refine WL.op (d := 50) (.bool true) (k := ?_)
    refine WL.op (d := 51) (.bool true) (k := ?_)
    refine WL.op (d := 52) (.bool true) (k := ?_)
    refine WL.op (d := 53) (.pointer (some ⟨b50, 0, none⟩)) (k := ?_)
    refine WL.load (v := .int .u64 ((0 + 1 : Nat) : Int)) (ld1 (T := 29) (i := 0) hb60) (k := ?_)
    refine WL.op (d := 55) (.bool (((0 + 1 : Nat) : Int) == 1)) (k := ?_)
    refine WL.op (d := 56) (.bool (((0 + 1 : Nat) : Int) == 1)) (k := ?_)
    refine WL.op (d := 57) (.bool (((0 + 1 : Nat) : Int) == 1)) (k := ?_)
    refine WL.rw (t := 57) (v := .bool true) (congrArg Value.bool h62) (k := ?_)
    refine WL.op (d := 58) (.pointer (some ⟨b50, 1, none⟩)) (k := ?_)
    refine WL.load (v := .string ⟨#[97]⟩) (ld1 (T := 9) (i := 1) hb60) (k := ?_)
    refine WL.op (d := 60) (.bool true) (k := ?_)
    refine WL.op (d := 61) (.bool true) (k := ?_)
    refine WL.op (d := 0) (.bool true) (k := ?_)
    refine WL.nil ?_
    refine WX.seqN ?_
    refine WC.ret ?_
    refine WX.ret (rs := [.tmp 0]) [.bool true] (.bool true) ⟨(by kernel_rfl), trivial⟩ (k := ?_)
    exact ⟨rfl, K⟩
  · have ph62 := ne_of_beq_false h62
    refine WL.rw (t := 41) (v := .bool false) (congrArg Value.bool h62) (k := ?_)
    refine WL.skip (d := 42) (k := ?_)
    refine WL.skip (d := 43) (k := ?_)
    refine WL.op (d := 44) (.bool false) (k := ?_)
    refine WL.op (d := 45) (.bool false) (k := ?_)
    refine WL.skip (d := 46) (k := ?_)
    refine WL.op (d := 47) (.bool false) (k := ?_)
    refine WL.op (d := 48) (.bool false) (k := ?_)
    refine WL.skip (d := 49) (k := ?_)
    refine WL.skip (d := 50) (k := ?_)
    refine WL.op (d := 51) (.bool false) (k := ?_)
    refine WL.op (d := 52) (.bool false) (k := ?_)
    refine WL.skip (d := 53) (k := ?_)
    refine WL.skip (d := 54) (k := ?_)
    refine WL.skip (d := 55) (k := ?_)
    refine WL.op (d := 56) (.bool false) (k := ?_)
    refine WL.op (d := 57) (.bool false) (k := ?_)
    refine WL.skip (d := 58) (k := ?_)
    refine WL.skip (d := 59) (k := ?_)
    refine WL.skip (d := 60) (k := ?_)
    refine WL.op (d := 61) (.bool false) (k := ?_)
    refine WL.op (d := 0) (.bool false) (k := ?_)
    refine WL.nil ?_
    refine WX.seqN ?_
    refine WC.ret ?_
    refine WX.ret (rs := [.tmp 0]) [.bool false] (.bool false) ⟨(by kernel_rfl), trivial⟩ (k := ?_)
    exfalso; omega

theorem dFail_pos {S : Nat → Prop} {dk : Nat} {sc : List (List UInt8)} {opn : List (Int × List UInt8)} {f0 rd f : Int} {w : World} (hd : DiskAt S dk ⟨sc, opn, f0, rd⟩ w) (h0 : 0 ≤ f) (h1 : f ≤ 9223372036854775807) : Calls Tryz.prog 12 #[.pointer (some ⟨dk, 0, none⟩), .int .i64 f] w fun e w' => e = .returned (.tuple #[]) ∧ DiskAt S dk ⟨sc, opn, f, rd⟩ w' ∧ Keeps S w w' := by
  refine (dFail_c (n := f) (by omega) hd).mono ?_
  rintro e w' ⟨g1, g2, g3⟩
  have : GDisk.failD ⟨sc, opn, f0, rd⟩ f = ⟨sc, opn, f, rd⟩ := by unfold GDisk.failD; rw [if_neg (by omega)]
  rw [this] at g2
  exact ⟨g1, g2, g3⟩

end Go.Proofs.YtdoenmokahbeaaaGreatDoor

/- Slots behind faults and crashes, plainly. -/
namespace Go.Proofs.YtdoenmokahbeaaaGreatDoor
open Go.RowKit
set_option linter.unusedVariables false
set_option linter.unusedSimpArgs false

/-- all sectors have the tag of this epoch, and of their place -/
def tagd (zs : List (List UInt8)) (ep : Nat) : Prop := ∀ j s, zs[j]? = some s → epS s = ep ∧ nuS s = j
theorem recS_tag {x : List UInt8} {ep i : Nat} (h : recS x ep i) : epS x = ep ∧ nuS x = i := by
  obtain ⟨h1, h2, h3⟩ := h
  rw [rdE, if_pos h1] at h2
  rw [rdN, if_pos h1] at h3
  exact ⟨h2, h3⟩
theorem slV_pos : ∀ (zs : List (List UInt8)) (i : Nat) (is : Bool) (ep nw : Nat) (dt : List UInt8), 0 < i → (slV i is ep dt nw zs).2.1 = ep ∧ ((slV i is ep dt nw zs).1 = true → is = true ∧ ∀ j s, zs[j]? = some s → epS s = ep ∧ nuS s = i + j)
  | [], i, is, ep, nw, dt, h => ⟨rfl, fun h => ⟨h, fun j s hs => by simp at hs⟩⟩
  | x :: xs, i, is, ep, nw, dt, h => by
    have e1 : ep1 i x ep = ep := if_neg (by omega)
    obtain ⟨g1, g2⟩ := slV_pos xs (i + 1) (is && decide (recS x ep i)) ep (max nw (tgE x)) (dt ++ rdP x) (by omega)
    rw [slV, e1]
    refine ⟨g1, fun ht => ?_⟩
    obtain ⟨k1, k2⟩ := g2 ht
    rw [Bool.and_eq_true] at k1
    refine ⟨k1.1, fun j s hs => ?_⟩
    cases j with
    | zero => simp at hs; subst hs; exact recS_tag (of_decide_eq_true k1.2)
    | succ j => simp at hs; obtain ⟨a1, a2⟩ := k2 j s hs; exact ⟨a1, by omega⟩
theorem slV_tagd {zs : List (List UInt8)} {nw : Nat} (h0 : zs ≠ []) (h : (slV 0 true 0 [] nw zs).1 = true) : tagd zs (slV 0 true 0 [] nw zs).2.1 := by
  cases zs with
  | nil => exact absurd rfl h0
  | cons x xs =>
    have e1 : ep1 0 x 0 = tgE x := if_pos rfl
    obtain ⟨g1, g2⟩ := slV_pos xs 1 (true && decide (recS x (tgE x) 0)) (tgE x) (max nw (tgE x)) ([] ++ rdP x) (by omega)
    rw [slV, e1] at h ⊢
    rw [g1]
    obtain ⟨k1, k2⟩ := g2 h
    intro j s hs
    cases j with
    | zero => simp at hs; subst hs; exact recS_tag (of_decide_eq_true (by simpa using k1))
    | succ j => simp at hs; obtain ⟨a1, a2⟩ := k2 j s hs; exact ⟨a1, by omega⟩
theorem slV_max : ∀ (zs : List (List UInt8)) (i : Nat) (is : Bool) (ep nw : Nat) (dt : List UInt8), nw ≤ (slV i is ep dt nw zs).2.2.2 ∧ (∀ s ∈ zs, tgE s ≤ (slV i is ep dt nw zs).2.2.2) ∧ ∀ M, nw ≤ M → (∀ s ∈ zs, tgE s ≤ M) → (slV i is ep dt nw zs).2.2.2 ≤ M
  | [], i, is, ep, nw, dt => ⟨Nat.le_refl _, fun s hs => by simp at hs, fun M h _ => h⟩
  | x :: xs, i, is, ep, nw, dt => by
    obtain ⟨g1, g2, g3⟩ := slV_max xs (i + 1) (is && decide (recS x (ep1 i x ep) i)) (ep1 i x ep) (max nw (tgE x)) (dt ++ rdP x)
    rw [slV]
    refine ⟨by omega, fun s hs => ?_, fun M h1 h2 => g3 M ?_ fun s hs => h2 s (List.mem_cons_of_mem _ hs)⟩
    · rcases List.mem_cons.1 hs with rfl | hs
      · omega
      · exact g2 s hs
    · have := h2 x (by simp); omega
theorem val_tagd {zs : List (List UInt8)} {nw : Nat} (h0 : zs ≠ []) : (valE (slV 0 true 0 [] nw zs) = 0 ∧ valT (slV 0 true 0 [] nw zs) = []) ∨ (¬ valE (slV 0 true 0 [] nw zs) = 0 ∧ tagd zs (valE (slV 0 true 0 [] nw zs))) := by
  by_cases h : (slV 0 true 0 [] nw zs).1 = true ∧ ¬ (slV 0 true 0 [] nw zs).2.1 = 0
  · refine .inr ?_
    rw [valE, if_pos h]
    exact ⟨h.2, slV_tagd h0 h.1⟩
  · exact .inl ⟨if_neg h, if_neg h⟩
/-- two slots, and what they tell -/
structure SInv (n i : Nat) (xs ys : List (List UInt8)) (E : Nat) (T : List UInt8) (L : Int) : Prop where
  lx : xs.length = n
  ly : ys.length = n
  all : ∀ s ∈ xs ++ ys, s.length = 64 ∧ epS s ≤ i
  how : (L = -1 ∧ E = 0 ∧ T = [] ∧ (∀ ep, ¬ ep = 0 → ¬ tagd xs ep) ∧ ∀ ep, ¬ ep = 0 → ¬ tagd ys ep) ∨
    (L = 0 ∧ ¬ E = 0 ∧ E ≤ i ∧ T.length ≤ 43 * n ∧ xs = slotL n E T ∧ ∀ ep, tagd ys ep → ep < E) ∨
    (L = 1 ∧ ¬ E = 0 ∧ E ≤ i ∧ T.length ≤ 43 * n ∧ ys = slotL n E T ∧ ∀ ep, tagd xs ep → ep < E)
section
variable {n i E : Nat} {xs ys : List (List UInt8)} {T : List UInt8} {L : Int}
theorem SInv.tell (h : SInv n i xs ys E T L) (n0 : 0 < n) (n1 : n ≤ 64) (hi : i < 256) : ∃ N, tellV xs ys = (E, T, L, N) ∧ N ≤ i ∧ ∀ s ∈ xs ++ ys, epS s ≤ N := by
  obtain ⟨lx, ly, all, how⟩ := h
  have x0 : xs ≠ [] := fun e => by rw [e] at lx; simp at lx; omega
  have y0 : ys ≠ [] := fun e => by rw [e] at ly; simp at ly; omega
  have tg : ∀ s ∈ xs ++ ys, tgE s = epS s := fun s hs => if_pos (all s hs).1
  obtain ⟨a1, a2, a3⟩ := slV_max xs 0 true 0 0 []
  obtain ⟨b1, b2, b3⟩ := slV_max ys 0 true 0 (slV 0 true 0 [] 0 xs).2.2.2 []
  refine ⟨(slV 0 true 0 [] (slV 0 true 0 [] 0 xs).2.2.2 ys).2.2.2, ?_, ?_, ?_⟩
  · have hx := val_tagd (nw := 0) x0
    have hy := val_tagd (nw := (slV 0 true 0 [] 0 xs).2.2.2) y0
    unfold tellV
    rcases how with ⟨rfl, rfl, rfl, h1, h2⟩ | ⟨rfl, h1, h2, h3, h4, h5⟩ | ⟨rfl, h1, h2, h3, h4, h5⟩
    · have hx : valE (slV 0 true 0 [] 0 xs) = 0 ∧ valT (slV 0 true 0 [] 0 xs) = [] := hx.resolve_right fun k => h1 _ k.1 k.2
      have hy := hy.resolve_right fun k => h2 _ k.1 k.2
      rw [hx.1, hx.2, hy.1]
      simp
    · have hw := slV_slot (nw := 0) n0 n1 (chunks_fit n0 h3) (show E < 18446744073709551616 by omega)
      rw [← h4] at hw
      have v1 : valE (slV 0 true 0 [] 0 xs) = E := by rw [hw]; exact if_pos ⟨rfl, h1⟩
      have v2 : valT (slV 0 true 0 [] 0 xs) = T := by rw [hw]; exact if_pos ⟨rfl, h1⟩
      have hn : ¬ (¬ valE (slV 0 true 0 [] (slV 0 true 0 [] 0 xs).2.2.2 ys) = 0 ∧ E ≤ valE (slV 0 true 0 [] (slV 0 true 0 [] 0 xs).2.2.2 ys)) := by
        rcases hy with k | k
        · exact fun q => q.1 k.1
        · exact fun q => absurd (h5 _ k.2) (by omega)
      rw [v1, v2, if_neg hn, if_neg hn, if_neg hn, if_pos h1]
    · have hw := slV_slot (nw := (slV 0 true 0 [] 0 xs).2.2.2) n0 n1 (chunks_fit n0 h3) (show E < 18446744073709551616 by omega)
      rw [← h4] at hw
      have v1 : valE (slV 0 true 0 [] (slV 0 true 0 [] 0 xs).2.2.2 ys) = E := by rw [hw]; exact if_pos ⟨rfl, h1⟩
      have v2 : valT (slV 0 true 0 [] (slV 0 true 0 [] 0 xs).2.2.2 ys) = T := by rw [hw]; exact if_pos ⟨rfl, h1⟩
      have hn : ¬ E = 0 ∧ valE (slV 0 true 0 [] 0 xs) ≤ E := by
        rcases hx with k | k
        · exact ⟨h1, by omega⟩
        · exact ⟨h1, Nat.le_of_lt (h5 _ k.2)⟩
      rw [v1, v2, if_pos hn, if_pos hn, if_pos hn]
  · refine b3 _ (a3 _ (Nat.zero_le _) fun s hs => ?_) fun s hs => ?_
    · have hs := List.mem_append_left ys hs
      rw [tg s hs]; exact (all s hs).2
    · have hs := List.mem_append_right xs hs
      rw [tg s hs]; exact (all s hs).2
  · intro s hs
    rw [← tg s hs]
    rcases List.mem_append.1 hs with hs | hs
    · exact Nat.le_trans (a2 s hs) b1
    · exact b2 s hs
theorem tagd_lt {zs : List (List UInt8)} {ep N : Nat} (h0 : 0 < zs.length) (h : ∀ s ∈ zs, epS s ≤ N) (ht : tagd zs ep) : ep ≤ N := by
  have h1 := List.getElem?_eq_getElem h0
  rw [← (ht 0 _ h1).1]
  exact h _ (List.mem_of_getElem? h1)
theorem slotL_all {k e : Nat} {t : List UInt8} (he : e < 18446744073709551616) : ∀ s ∈ slotL k e t, s.length = 64 ∧ epS s = e := by
  intro s hs
  obtain ⟨j, _, rfl⟩ := List.mem_map.1 hs
  have h := put_lenc (t := t) (e := e) (i := j)
  refine ⟨h, ?_⟩
  have := tgE_put (t := t) (e := e) (i := j) he
  rwa [tgE, if_pos h] at this
/-- another text, told as done -/
theorem SInv.put0 (h : SInv n i xs ys E T L) {N : Nat} {l : List UInt8} (hN : N ≤ i) (hall : ∀ s ∈ xs ++ ys, epS s ≤ N) (n0 : 0 < n) (hi : i < 255) (hl : l.length ≤ 43 * n) : SInv n (i + 1) (slotL n (N + 1) l) ys (N + 1) l 0 := by
  refine ⟨by simp [slotL], h.ly, fun s hs => ?_, .inr (.inl ⟨rfl, by omega, by omega, hl, rfl, fun ep ht => ?_⟩)⟩
  · rcases List.mem_append.1 hs with hs | hs
    · obtain ⟨a1, a2⟩ := slotL_all (by omega) s hs
      exact ⟨a1, by omega⟩
    · obtain ⟨a1, a2⟩ := h.all s (List.mem_append_right _ hs)
      exact ⟨a1, by omega⟩
  · have := tagd_lt (by rw [h.ly]; exact n0) (fun s hs => hall s (List.mem_append_right _ hs)) ht
    omega
theorem SInv.put1 (h : SInv n i xs ys E T L) {N : Nat} {l : List UInt8} (hN : N ≤ i) (hall : ∀ s ∈ xs ++ ys, epS s ≤ N) (n0 : 0 < n) (hi : i < 255) (hl : l.length ≤ 43 * n) : SInv n (i + 1) xs (slotL n (N + 1) l) (N + 1) l 1 := by
  refine ⟨h.lx, by simp [slotL], fun s hs => ?_, .inr (.inr ⟨rfl, by omega, by omega, hl, rfl, fun ep ht => ?_⟩)⟩
  · rcases List.mem_append.1 hs with hs | hs
    · obtain ⟨a1, a2⟩ := h.all s (List.mem_append_left _ hs)
      exact ⟨a1, by omega⟩
    · obtain ⟨a1, a2⟩ := slotL_all (by omega) s hs
      exact ⟨a1, by omega⟩
  · have := tagd_lt (by rw [h.lx]; exact n0) (fun s hs => hall s (List.mem_append_left _ hs)) ht
    omega
end
/-! torn slots -/
theorem be_small {e : Nat} (h : e < 256) : be 8 e = [0, 0, 0, 0, 0, 0, 0, UInt8.ofNat e] := by
  have h2 : ∀ k : Nat, 256 ≤ k → e / k = 0 := fun k hk => Nat.div_eq_of_lt (by omega)
  simp [be, h2, Nat.div_div_eq_div_mul]
  rw [Nat.mod_eq_of_lt h]
theorem mix_tag {p old : List UInt8} {e n k : Nat} (hp : p.length ≤ 43) (ho : old.length = 64) (hk : k ≤ 64) (he : e < 256) (hoe : epS old < 256) :
    epS ((makeS p e n).take k ++ old.drop k) = e ∨ (epS ((makeS p e n).take k ++ old.drop k) = epS old ∧ nuS ((makeS p e n).take k ++ old.drop k) = nuS old) := by
  have hl := makeS_len hp e n
  by_cases k56 : 56 ≤ k
  · refine .inl ?_
    have e1 : (((makeS p e n).take k ++ old.drop k).drop 48).take 8 = ((makeS p e n).drop 48).take 8 := by
      rw [List.drop_append_of_le_length (by simp [hl]; omega), List.take_append_of_le_length (by simp [hl]; omega), List.drop_take, List.take_take, Nat.min_eq_left (by omega)]
    have e2 : epS ((makeS p e n).take k ++ old.drop k) = epS (makeS p e n) := by unfold epS; rw [e1]
    rw [e2]; exact make_ep hp (by omega)
  · refine .inr ⟨?_, ?_⟩
    · have a1 : ((makeS p e n).drop 48).take 8 = be 8 e := by
        rw [make_tag hp, tagsS, List.take_left' (be_len 8 e)]
      have a2 : (old.drop 48).take 8 = be 8 (epS old) := by
        have := tag_back ho
        rw [← this, tagsS, List.take_left' (be_len 8 _)]
      by_cases k48 : k ≤ 48
      · have e2 : ((makeS p e n).take k ++ old.drop k).drop 48 = old.drop 48 := by
          rw [List.drop_append, List.drop_of_length_le (by simp; omega)]
          simp [hl]
          congr 1; omega
        unfold epS; rw [e2]
      · have e1 : (((makeS p e n).take k ++ old.drop k).drop 48).take 8 = (((makeS p e n).drop 48).take 8).take (k - 48) ++ ((old.drop 48).take 8).drop (k - 48) := by
          rw [List.drop_append_of_le_length (by simp [hl]; omega), List.drop_take, List.take_append, List.take_take, List.take_take]
          simp only [List.length_take, List.length_drop, hl]
          rw [show min 8 (k - 48) = k - 48 by omega, show min (k - 48) 8 = k - 48 by omega, List.drop_take, List.drop_drop, show 48 + (k - 48) = k by omega, show min (k - 48) (64 - 48) = k - 48 by omega]
        rw [a1, a2, be_small he, be_small hoe] at e1
        have e2 : (((makeS p e n).take k ++ old.drop k).drop 48).take 8 = (old.drop 48).take 8 := by
          rw [e1, a2, be_small hoe]
          rcases (show k - 48 = 1 ∨ k - 48 = 2 ∨ k - 48 = 3 ∨ k - 48 = 4 ∨ k - 48 = 5 ∨ k - 48 = 6 ∨ k - 48 = 7 by omega) with h | h | h | h | h | h | h <;> rw [h] <;> rfl
        unfold epS; rw [e2]
    · have e2 : ((makeS p e n).take k ++ old.drop k).drop 56 = old.drop 56 := by
        rw [List.drop_append, List.drop_of_length_le (by simp; omega)]
        simp [hl]
        congr 1; omega
      unfold nuS; rw [e2]
/-- so many open writes of a slot, torn -/
def mixL (fs : List (Int × Int)) (c : List (List UInt8)) (e m : Nat) (old : List (List UInt8)) : List (List UInt8) := old.mapIdx fun j s => if j < m then mixS (fateF fs j) (putX c e j) s else s
theorem mixL_at {fs : List (Int × Int)} {c old : List (List UInt8)} {e m j : Nat} : (mixL fs c e m old)[j]? = (old[j]?).map fun s => if j < m then mixS (fateF fs j) (putX c e j) s else s := by
  unfold mixL; rw [List.getElem?_mapIdx]
theorem crash_at {fs : List (Int × Int)} {c secs : List (List UInt8)} {e a M : Nat} : ∀ m : Nat, m ≤ M → ∀ p, (crashN fs (putsW (a : Int) c e 0 M) secs m).1[p]? = (secs[p]?).map fun s => if a ≤ p ∧ p < a + m then mixS (fateF fs (p - a)) (putX c e (p - a)) s else s
  | 0, _, p => by
    rw [crashN]
    cases h : secs[p]? with
    | none => rfl
    | some s => rw [Option.map_some, if_neg (by omega)]
  | m + 1, hm, p => by
    have ho : (putsW (a : Int) c e 0 M)[m]? = some ((a : Int) + (m : Int), putX c e m) := by
      unfold putsW
      rw [List.getElem?_map, List.getElem?_range' (by omega)]
      simp
    have ih := crash_at (fs := fs) (c := c) (secs := secs) (e := e) (a := a) (M := M) m (by omega)
    rw [crashN_succ ho]
    have ea : ((a : Int) + (m : Int)).toNat = a + m := by omega
    simp only [ea]
    rw [List.getElem?_set]
    by_cases hp : a + m = p
    · subst hp
      rw [if_pos rfl]
      have h1 := ih (a + m)
      have hlen := crashN_len (fs := fs) (o := putsW (a : Int) c e 0 M) (s0 := secs) m
      by_cases hlt : a + m < secs.length
      · rw [List.getElem?_eq_getElem hlt, Option.map_some, if_neg (by omega)] at h1
        rw [if_pos (by rw [hlen]; exact hlt), List.getD_eq_getElem?_getD, h1, List.getElem?_eq_getElem hlt, Option.map_some, if_pos (by omega), show a + m - a = m by omega]; rfl
      · rw [if_neg (by rw [hlen]; exact hlt), List.getElem?_eq_none (by omega)]; rfl
    · rw [if_neg hp, ih p]
      cases h : secs[p]? with
      | none => rfl
      | some s =>
        rw [Option.map_some, Option.map_some]
        by_cases hq : a ≤ p ∧ p < a + m
        · rw [if_pos hq, if_pos (by omega)]
        · rw [if_neg hq, if_neg (by omega)]
theorem putsW_len {a : Int} {c : List (List UInt8)} {e m : Nat} : (putsW a c e 0 m).length = m := by simp [putsW]
theorem crash_s0 {fs : List (Int × Int)} {c xs ys : List (List UInt8)} {e m : Nat} (hm : m ≤ xs.length) : (crashN fs (putsW ((0 : Nat) : Int) c e 0 m) (xs ++ ys) (putsW ((0 : Nat) : Int) c e 0 m).length).1 = mixL fs c e m xs ++ ys := by
  rw [putsW_len]
  apply List.ext_getElem?
  intro p
  rw [crash_at m (Nat.le_refl _) p]
  have hl : (mixL fs c e m xs).length = xs.length := by simp [mixL]
  by_cases hp : p < xs.length
  · rw [List.getElem?_append_left hp, List.getElem?_append_left (by omega), mixL_at]
    congr 1; funext s
    by_cases hq : p < m
    · rw [if_pos (by omega), if_pos hq]; rfl
    · rw [if_neg (by omega), if_neg hq]
  · rw [List.getElem?_append_right (by omega), List.getElem?_append_right (by omega), hl]
    cases ys[p - xs.length]? with
    | none => rfl
    | some s => rw [Option.map_some, if_neg (by omega)]
theorem crash_s1 {fs : List (Int × Int)} {c xs ys : List (List UInt8)} {e m : Nat} (hm : m ≤ ys.length) : (crashN fs (putsW ((xs.length : Nat) : Int) c e 0 m) (xs ++ ys) (putsW ((xs.length : Nat) : Int) c e 0 m).length).1 = xs ++ mixL fs c e m ys := by
  rw [putsW_len]
  apply List.ext_getElem?
  intro p
  rw [crash_at m (Nat.le_refl _) p]
  by_cases hp : p < xs.length
  · rw [List.getElem?_append_left hp, List.getElem?_append_left hp, List.getElem?_eq_getElem hp, Option.map_some, if_neg (by omega)]
  · rw [List.getElem?_append_right (by omega), List.getElem?_append_right (by omega), mixL_at]
    congr 1; funext s
    by_cases hq : p - xs.length < m
    · rw [if_pos (by omega), if_pos hq]
    · rw [if_neg (by omega), if_neg hq]
theorem mix_slot {fs : List (Int × Int)} {l : List UInt8} {old : List (List UInt8)} {n N m : Nat} (hl : old.length = n) (ho : ∀ s ∈ old, s.length = 64 ∧ epS s ≤ N) (hN : N < 255) (hm : m ≤ n) (h64 : n ≤ 64) :
    (mixL fs (chunks l) (N + 1) m old).length = n ∧ (∀ s ∈ mixL fs (chunks l) (N + 1) m old, s.length = 64 ∧ epS s ≤ N + 1) ∧ (mixL fs (chunks l) (N + 1) m old = slotL n (N + 1) l ∨ ∀ ep, tagd (mixL fs (chunks l) (N + 1) m old) ep → tagd old ep) := by
  have hc : ∀ j, ((chunks l).getD j []).length ≤ 43 := fun j => by
    rw [List.getD_eq_getElem?_getD]
    cases h : (chunks l)[j]? with
    | none => simp
    | some x => exact chunks_mem (List.mem_of_getElem? h)
  have hmx : ∀ j s, old[j]? = some s → (mixS (fateF fs j) (putX (chunks l) (N + 1) j) s).length = 64 ∧ (epS (mixS (fateF fs j) (putX (chunks l) (N + 1) j) s) = N + 1 ∨ (epS (mixS (fateF fs j) (putX (chunks l) (N + 1) j) s) = epS s ∧ nuS (mixS (fateF fs j) (putX (chunks l) (N + 1) j) s) = nuS s)) := fun j s hs => by
    obtain ⟨a1, a2⟩ := ho s (List.mem_of_getElem? hs)
    have fr := fateF_rng fs j
    exact ⟨mixS_len put_lenc a1, mix_tag (hc j) a1 (by omega) (by omega) (by omega)⟩
  have hlen : (mixL fs (chunks l) (N + 1) m old).length = n := by simp [mixL, hl]
  refine ⟨hlen, fun s hs => ?_, ?_⟩
  · obtain ⟨j, hj, rfl⟩ := List.getElem_of_mem hs
    have h1 := List.getElem?_eq_getElem hj
    rw [mixL_at] at h1
    obtain ⟨q, hq, hq2⟩ := Option.map_eq_some_iff.1 h1
    obtain ⟨a1, a2⟩ := ho q (List.mem_of_getElem? hq)
    rw [← hq2]
    by_cases hjm : j < m
    · rw [if_pos hjm]
      obtain ⟨b1, b2⟩ := hmx j q hq
      exact ⟨b1, by omega⟩
    · rw [if_neg hjm]
      exact ⟨a1, by omega⟩
  · by_cases ht : tagd (mixL fs (chunks l) (N + 1) m old) (N + 1)
    · refine .inl ?_
      apply List.ext_getElem?
      intro j
      by_cases hj : j < n
      · have hj' : j < old.length := by omega
        have ho1 := List.getElem?_eq_getElem hj'
        have h1 : (mixL fs (chunks l) (N + 1) m old)[j]? = some (if j < m then mixS (fateF fs j) (putX (chunks l) (N + 1) j) old[j] else old[j]) := by rw [mixL_at, ho1]; rfl
        obtain ⟨t1, t2⟩ := ht j _ h1
        obtain ⟨a1, a2⟩ := ho _ (List.mem_of_getElem? ho1)
        have hs : (slotL n (N + 1) l)[j]? = some (putX (chunks l) (N + 1) j) := by
          unfold slotL; rw [List.getElem?_map, List.getElem?_range' hj]; simp
        rw [h1, hs]
        by_cases hjm : j < m
        · rw [if_pos hjm] at t1 t2 ⊢
          have fr := fateF_rng fs j
          exact congrArg some (torn_tag (hc j) a1 (by omega) (by omega) (by omega) (fun k => by omega) t1 t2)
        · rw [if_neg hjm] at t1
          omega
      · rw [List.getElem?_eq_none (by omega), List.getElem?_eq_none (by simp [slotL]; omega)]
    · refine .inr fun ep hte j s hs => ?_
      have hne : ¬ ep = N + 1 := fun e => ht (e ▸ hte)
      have h1 : (mixL fs (chunks l) (N + 1) m old)[j]? = some (if j < m then mixS (fateF fs j) (putX (chunks l) (N + 1) j) s else s) := by rw [mixL_at, hs]; rfl
      obtain ⟨t1, t2⟩ := hte j _ h1
      by_cases hjm : j < m
      · rw [if_pos hjm] at t1 t2
        rcases (hmx j s hs).2 with b | ⟨b, c⟩
        · omega
        · exact ⟨b.symm.trans t1, c.symm.trans t2⟩
      · rw [if_neg hjm] at t1 t2
        exact ⟨t1, t2⟩

/-! the disk of two slots -/
def SSt (n i : Nat) (sc : List (List UInt8)) (E : Nat) (T : List UInt8) (L : Int) : Prop := ∃ xs ys, sc = xs ++ ys ∧ SInv n i xs ys E T L
/-- what is told behind a Write that told R, and a crash -/
def SvTo (E : Nat) (T l : List UInt8) (R : Int) (E2 : Nat) (T2 : List UInt8) : Prop := (R = 0 ∧ ¬ E2 = 0 ∧ T2 = l) ∨ (R = 18 ∧ ((E2 = E ∧ T2 = T) ∨ (¬ E2 = 0 ∧ T2 = l)))
section
variable {n i E : Nat} {sc : List (List UInt8)} {T l : List UInt8} {L : Int}
theorem SSt.len (h : SSt n i sc E T L) : sc.length = 2 * n := by
  obtain ⟨xs, ys, rfl, h⟩ := h
  rw [List.length_append, h.lx, h.ly]; omega
theorem zero_tag {z : List UInt8} {k : Nat} (h : z ∈ List.replicate k (List.replicate 64 (0 : UInt8))) : z.length = 64 ∧ epS z = 0 := by
  rw [List.eq_of_mem_replicate h]; exact ⟨by simp, by decide⟩
theorem SSt.zero (n0 : 0 < n) (i : Nat) : SSt n i (List.replicate (2 * n) (List.replicate 64 (0 : UInt8))) 0 [] (-1) := by
  refine ⟨List.replicate n (List.replicate 64 0), List.replicate n (List.replicate 64 0), ?_, by simp, by simp, fun s hs => ?_, .inl ⟨rfl, rfl, rfl, ?_, ?_⟩⟩
  · rw [List.replicate_append_replicate]; congr 1; omega
  · have : s.length = 64 ∧ epS s = 0 := by
      rcases List.mem_append.1 hs with hs | hs
      · exact zero_tag hs
      · exact zero_tag hs
    exact ⟨this.1, by omega⟩
  · intro ep h0 ht
    have := tagd_lt (N := 0) (by simpa using n0) (fun s hs => by rw [(zero_tag hs).2]; exact Nat.le_refl _) ht
    omega
  · intro ep h0 ht
    have := tagd_lt (N := 0) (by simpa using n0) (fun s hs => by rw [(zero_tag hs).2]; exact Nat.le_refl _) ht
    omega
/-- a slot written as a whole -/
theorem SSt.wr (h : SSt n i sc E T L) {N : Nat} (hN : N ≤ i) (hall : ∀ s ∈ sc, epS s ≤ N) (n0 : 0 < n) (hi : i < 255) (hl : l.length ≤ 43 * n) :
    SSt n (i + 1) (([] ++ putsW (0 + slotA L (n : Int)) (chunks l) (N + 1) 0 n).foldl GDisk.put sc) (N + 1) l (slotN L) := by
  obtain ⟨xs, ys, rfl, h⟩ := h
  have lx := h.lx
  have ly := h.ly
  by_cases h0 : L = 0
  · have e1 := put_range (a := n) (c := chunks l) (e := N + 1) n 0 (xs ++ ys) (by simp; omega)
    have e2 : List.take (n + 0) (xs ++ ys) = xs := List.take_left' lx
    rw [slotA, if_pos h0, slotN, if_pos h0, List.nil_append, Int.zero_add, e1, e2, List.drop_of_length_le (by simp; omega), List.append_nil]
    exact ⟨xs, _, rfl, h.put1 hN hall n0 hi hl⟩
  · have e1 := put_range (a := 0) (c := chunks l) (e := N + 1) n 0 (xs ++ ys) (by simp; omega)
    rw [slotA, if_neg h0, slotN, if_neg h0, List.nil_append, Int.zero_add]
    refine ⟨slotL n (N + 1) l, ys, ?_, h.put0 hN hall n0 hi hl⟩
    refine e1.trans ?_
    rw [Nat.zero_add, Nat.add_zero, List.take_zero, List.nil_append, Nat.zero_add, List.drop_left' lx]; rfl
/-- a slot whose open writes were torn -/
theorem SSt.torn (h : SSt n i sc E T L) {N m : Nat} (hN : N ≤ i) (hall : ∀ s ∈ sc, epS s ≤ N) (n0 : 0 < n) (n1 : n ≤ 64) (hi : i < 255) (hl : l.length ≤ 43 * n) (hm : m ≤ n) (fs : List (Int × Int)) :
    ∃ E2 T2 L2, SSt n (i + 1) (crashN fs ([] ++ putsW (0 + slotA L (n : Int)) (chunks l) (N + 1) 0 m) sc ([] ++ putsW (0 + slotA L (n : Int)) (chunks l) (N + 1) 0 m).length).1 E2 T2 L2 ∧ ((E2 = E ∧ T2 = T) ∨ (¬ E2 = 0 ∧ T2 = l)) := by
  obtain ⟨xs, ys, rfl, h⟩ := h
  have lx := h.lx
  have ly := h.ly
  by_cases h0 : L = 0
  · have e1 := crash_s1 (fs := fs) (c := chunks l) (xs := xs) (ys := ys) (e := N + 1) (m := m) (by omega)
    rw [slotA, if_pos h0, List.nil_append, Int.zero_add, ← lx, e1, lx]
    obtain ⟨g1, g2, g3⟩ := mix_slot (fs := fs) (l := l) (old := ys) (n := n) (N := N) (m := m) ly (fun s hs => ⟨(h.all s (List.mem_append_right _ hs)).1, hall s (List.mem_append_right _ hs)⟩) (by omega) hm n1
    rcases g3 with g3 | g3
    · rw [g3]
      exact ⟨_, _, _, ⟨xs, _, rfl, h.put1 hN hall n0 hi hl⟩, .inr ⟨by omega, rfl⟩⟩
    · refine ⟨E, T, L, ⟨xs, _, rfl, lx, g1, fun s hs => ?_, ?_⟩, .inl ⟨rfl, rfl⟩⟩
      · rcases List.mem_append.1 hs with hs | hs
        · obtain ⟨a1, a2⟩ := h.all s (List.mem_append_left _ hs)
          exact ⟨a1, by omega⟩
        · obtain ⟨a1, a2⟩ := g2 s hs
          exact ⟨a1, by omega⟩
      · rcases h.how with ⟨k1, _⟩ | ⟨k1, k2, k3, k4, k5, k6⟩ | ⟨k1, _⟩
        · omega
        · exact .inr (.inl ⟨k1, k2, by omega, k4, k5, fun ep ht => k6 ep (g3 ep ht)⟩)
        · omega
  · have e1 := crash_s0 (fs := fs) (c := chunks l) (xs := xs) (ys := ys) (e := N + 1) (m := m) (by omega)
    rw [slotA, if_neg h0, List.nil_append]
    have e2 : (crashN fs (putsW ((0 : Int) + 0) (chunks l) (N + 1) 0 m) (xs ++ ys) (putsW ((0 : Int) + 0) (chunks l) (N + 1) 0 m).length).1 = mixL fs (chunks l) (N + 1) m xs ++ ys := e1
    rw [e2]
    obtain ⟨g1, g2, g3⟩ := mix_slot (fs := fs) (l := l) (old := xs) (n := n) (N := N) (m := m) lx (fun s hs => ⟨(h.all s (List.mem_append_left _ hs)).1, hall s (List.mem_append_left _ hs)⟩) (by omega) hm n1
    rcases g3 with g3 | g3
    · rw [g3]
      exact ⟨_, _, _, ⟨_, ys, rfl, h.put0 hN hall n0 hi hl⟩, .inr ⟨by omega, rfl⟩⟩
    · refine ⟨E, T, L, ⟨_, ys, rfl, g1, ly, fun s hs => ?_, ?_⟩, .inl ⟨rfl, rfl⟩⟩
      · rcases List.mem_append.1 hs with hs | hs
        · obtain ⟨a1, a2⟩ := g2 s hs
          exact ⟨a1, by omega⟩
        · obtain ⟨a1, a2⟩ := h.all s (List.mem_append_right _ hs)
          exact ⟨a1, by omega⟩
      · rcases h.how with ⟨k1, k2, k3, k4, k5⟩ | ⟨k1, _⟩ | ⟨k1, k2, k3, k4, k5, k6⟩
        · exact .inl ⟨k1, k2, k3, fun ep he ht => k4 ep he (g3 ep ht), k5⟩
        · exact absurd k1 h0
        · exact .inr (.inr ⟨k1, k2, by omega, k4, k5, fun ep ht => k6 ep (g3 ep ht)⟩)
end
theorem puts_big {a : Int} {c : List (List UInt8)} {e : Nat} (hc : ∀ x ∈ c, x.length ≤ 43) : ∀ (f i : Nat) (d : GDisk), (f : Int) + 1 < d.fail → (∀ j : Nat, i ≤ j → j < i + f → d.has (a + (j : Int))) →
    ∃ f', putsGo a c e f i d = (0, ⟨(d.opn ++ putsW a c e i f).foldl GDisk.put d.secs, [], f', d.reads⟩)
  | 0, i, d, hf, _ => by
    obtain ⟨e1, e2⟩ := GDisk.flush_ok (d := d) (by omega)
    exact ⟨tickF d.fail, by rw [putsGo, e1, e2]; simp [putsW]⟩
  | f + 1, i, d, hf, ha => by
    obtain ⟨e1, e2⟩ := GDisk.write_ok (d := d) (a := a + (i : Int)) (l := putX c e i) ⟨ha i (Nat.le_refl _) (by omega), putX_len hc e i⟩ (by omega)
    have ht : tickF d.fail = d.fail - 1 := if_neg (by omega)
    obtain ⟨f', h⟩ := puts_big hc f (i + 1) ⟨d.secs, d.opn ++ [(a + (i : Int), putX c e i)], tickF d.fail, d.reads⟩ (by show (f : Int) + 1 < tickF d.fail; omega) (fun j h1 h2 => ha j (by omega) (by omega))
    refine ⟨f', ?_⟩
    rw [putsGo, if_pos e1, e2, h]
    simp [putsW, List.range'_succ]
section
variable {S : Nat → Prop} {b dk n i E N : Nat} {sc : List (List UInt8)} {T l : List UInt8} {L rd f : Int} {w : World}
abbrev BKn (b dk n : Nat) (r nw l : Value) (w : World) : Prop := w.heap[b]? = some (.cells #[.pointer (some ⟨dk, 0, none⟩), .int .i64 0, .int .i64 (n : Int), r, nw, l] 105 (0, 0))
theorem svRead_safe {v3 v4 v5 : Value} (hb : BKn b dk n v3 v4 v5 w) (hd : DiskAt S dk ⟨sc, [], 0, rd⟩ w) (hnb : ¬ S b) (h : SSt n i sc E T L) (n0 : 0 < n) (n1 : n ≤ 64) (hi : i < 256) :
    Calls Tryz.prog 32 #[.pointer (some ⟨b, 0, none⟩)] w fun e w' => ∃ rd' N, e = .returned (.tuple #[.agg #[.int .u64 (E : Int), .string ⟨T.toArray⟩], .bool (decide (¬ E = 0)), .int .i64 0]) ∧ BKn b dk n (.bool true) (.int .u64 ((N : Nat) : Int)) (.int .i64 L) w' ∧ DiskAt S dk ⟨sc, [], 0, rd'⟩ w' ∧ Keeps (fun k => k = b ∨ S k) w w' ∧ (N ≤ i ∧ ∀ s ∈ sc, epS s ≤ N) := by
  have hlen := h.len
  obtain ⟨xs, ys, rfl, h⟩ := h
  obtain ⟨N, t1, t2, t3⟩ := h.tell n0 n1 hi
  refine (svRead_calm (k := (n : Int)) hb hd hnb (by decide) (by decide) (by omega) (by omega) (by rw [hlen]; omega) (view0 (by rw [h.lx]; omega)) (view1 (by rw [h.lx]; omega) (by rw [h.ly]; omega) (by omega)) t1).mono ?_
  rintro e w' ⟨rd', g1, g2, g3, g4⟩
  exact ⟨rd', N, g1, g2, g3, g4, t2, t3⟩
theorem svWrite_any (hb : BKn b dk n (.bool true) (.int .u64 (N : Int)) (.int .i64 L) w) (hd : DiskAt S dk ⟨sc, [], f, rd⟩ w) (hnb : ¬ S b) (h : SSt n i sc E T L) (hN : N ≤ i ∧ ∀ s ∈ sc, epS s ≤ N) (f0 : 0 ≤ f) (n0 : 0 < n) (n1 : n ≤ 64) (hi : i < 255) (hl : l.length ≤ 43 * n) :
    Calls Tryz.prog 34 #[.pointer (some ⟨b, 0, none⟩), .string ⟨l.toArray⟩] w fun e w' => ∃ S' M R v3 v4 v5 d', e = .returned (.tuple #[.int .u64 ((M : Nat) : Int), .int .i64 R]) ∧ BKn b dk n v3 v4 v5 w' ∧ DiskAt S' dk d' w' ∧ (∀ k, S' k → S k ∨ w.heap.size ≤ k) ∧ ¬ S' b ∧ Keeps (fun k => k = b ∨ S k) w w' ∧
      ∀ fs, ∃ sc' E2 T2 L2, GDisk.crashD d' fs = ⟨sc', [], 0, 0⟩ ∧ SSt n (i + 1) sc' E2 T2 L2 ∧ SvTo E T l R E2 T2 := by
  have hlen := h.len
  have hs : 0 ≤ slotA L (n : Int) ∧ slotA L (n : Int) ≤ n := by unfold slotA; split <;> omega
  have hw := h.wr (l := l) hN.1 hN.2 n0 hi hl
  by_cases hf : 1 ≤ f ∧ f ≤ (n : Int) + 1
  · refine (svWrite_fail (k := (n : Int)) (l := l) (nw := N) (la := L) hb hd hnb hf.1 hf.2 (by decide) (by decide) (by omega) (by omega) (by rw [hlen]; omega) (by omega) (by simp) (by omega) rfl).mono ?_
    rintro e w' ⟨S', g1, g2, g3, g4, g5, g6⟩
    refine ⟨S', 0, 18, _, _, _, _, g1, g2, g3, g4, g5, g6, fun fs => ?_⟩
    obtain ⟨E2, T2, L2, k1, k2⟩ := h.torn (l := l) (m := (f - 1).toNat) hN.1 hN.2 n0 n1 hi hl (by omega) fs
    exact ⟨_, E2, T2, L2, rfl, k1, .inr ⟨rfl, k2⟩⟩
  · have hP : ∃ f', putsGo (0 + slotA L (n : Int)) (chunks l) (N + 1) n 0 ⟨sc, [], f, rd⟩ = (0, ⟨([] ++ putsW (0 + slotA L (n : Int)) (chunks l) (N + 1) 0 n).foldl GDisk.put sc, [], f', rd⟩) := by
      by_cases hz : f = 0
      · subst hz
        exact ⟨0, puts_calm (fun x hx => chunks_mem hx) n 0 ⟨sc, [], 0, rd⟩ rfl (fun j h1 h2 => ⟨by omega, by show _ < (sc.length : Int); omega⟩)⟩
      · exact puts_big (fun x hx => chunks_mem hx) n 0 ⟨sc, [], f, rd⟩ (by show (n : Int) + 1 < f; omega) (fun j h1 h2 => ⟨by omega, by show _ < (sc.length : Int); omega⟩)
    obtain ⟨f', hP⟩ := hP
    have hP2 : putsGo (0 + slotA L (n : Int)) (chunks l) (N + 1) (n : Int).toNat 0 ⟨sc, [], f, rd⟩ = (0, ⟨([] ++ putsW (0 + slotA L (n : Int)) (chunks l) (N + 1) 0 n).foldl GDisk.put sc, [], f', rd⟩) := by rw [Int.toNat_natCast]; exact hP
    refine (svWrite_ok (by decide) (by decide) (by omega) (by omega) hb hd hnb (by omega) (by simp) (by omega) hP2 rfl).mono ?_
    rintro e w' ⟨g1, g2, S', g3, g4, g5, g6⟩
    exact ⟨S', N + 1, 0, _, _, _, _, g1, g2, g3, g4, g5, g6, fun fs => ⟨_, N + 1, l, slotN L, rfl, hw, .inl ⟨rfl, by omega, rfl⟩⟩⟩
end

end Go.Proofs.YtdoenmokahbeaaaGreatDoor
namespace Go.Proofs.YtdoenmokahbeaaaGreatDoor
open Go.RowKit
set_option linter.unusedVariables false
set_option linter.unusedSimpArgs false

set_option maxRecDepth 100000 in
set_option maxHeartbeats 4000000 in
theorem lSlotsSafe_c (k : Int) {A : Option Addr} {ca : Nat} {tr : List GTry} {w : World} (hA : SlAt tryC 3 57 A tr w) (hTr : TriesOk tr w) (na : tr.length ≤ 9223372036854775807) : Calls Tryz.prog 6 #[.int .i64 k, .slice A tr.length ca] w fun e w' => e = .returned (.bool true) ∧ Adds w w' := by
  have K : Keeps (fun _ => False) w w := Keeps.refl _ w
  refine Calls.start Tryz.func6 rfl (by kernel_rfl) ?_
  refine WC.seq ?_
  refine WC.region ?_
  refine WL.op (d := 4) (.bool false) (k := ?_)
  refine WL.nil ?_
  refine WX.seqN ?_
  refine WC.seq ?_
  refine WC.region ?_
  refine WL.callG (d := 22) (f := 30) (args := #[]) (l06awake_c w) (k := fun e_ w1 h_ => ⟨.bool true, h_.1, ?_⟩)
  have k2 := h_.2; clear h_
  replace K := K.trans (k2.any _)
  refine WL.op (d := 5) (.bool true) (k := ?_)
  refine WL.nil ?_
  refine WX.seqN ?_
  refine WC.seq ?_
  refine WC.region ?_
  refine WL.op (d := 23) (.int .i64 k) (k := ?_)
  refine WL.bin (d := 24) (v := .int .i64 (bits BinOp.and IntKind.i64 k 3)) (bits_run (by decide)) (k := ?_)
  obtain ⟨m, hm, m0, m1⟩ : ∃ m : Nat, bits BinOp.and IntKind.i64 k 3 = (m : Int) - 1 ∧ 1 ≤ m ∧ m ≤ 4 := ⟨(bits BinOp.and IntKind.i64 k 3 + 1).toNat, by have := and3_eq (x := k); omega, by have := and3_eq (x := k); omega, by have := and3_eq (x := k); omega⟩
  refine WL.rw (t := 24) (v := .int .i64 ((m : Int) - 1)) (congrArg (Value.int .i64) hm) (k := ?_)
  refine WL.opE (d := 25) (.int .i64 (IntKind.i64.wrap (1 + ((m : Int) - 1)))) (v := .int .i64 (m : Int)) (congrArg (Value.int .i64) ((IntWalk.i64_in _ (by omega)).trans (by omega))) (k := ?_)
  refine WL.op (d := 6) (.int .i64 (m : Int)) (k := ?_)
  refine WL.nil ?_
  refine WX.seqN ?_
  refine WC.seq ?_
  refine WC.region ?_
  refine WL.op (d := 26) (.int .i64 (m : Int)) (k := ?_)
  refine WL.opE (d := 27) (.int .i64 (IntKind.i64.wrap (2 * (m : Int)))) (v := .int .i64 ((2 * m : Nat) : Int)) (congrArg (Value.int .i64) ((IntWalk.i64_in _ (by omega)).trans (by omega))) (k := ?_)
  refine WL.callG (d := 28) (f := 8) (args := #[.int .i64 ((2 * m : Nat) : Int)]) (dNew_ok (n := 2 * m) (by omega) (by omega) w1) (k := fun e_ w3 h_ => ?_)
  obtain ⟨b4, S5, rfl, g6, hd7, ho8, k9⟩ := h_
  refine ⟨_, rfl, ?_⟩
  have lk10 : ∀ k, S5 k → False ∨ w.heap.size ≤ k := fun k h => .inr (Nat.le_trans K.size (ho8 k h))
  have z11 := Nat.le_trans K.size g6
  replace K := K.trans (k9.any _)
  change DiskAt S5 b4 (⟨List.replicate (2 * m) (List.replicate 64 (0 : UInt8)), [], 0, 0⟩ : GDisk) w3 at hd7
  have ln12 : (GDisk.secs (⟨List.replicate (2 * m) (List.replicate 64 (0 : UInt8)), [], 0, 0⟩ : GDisk)).length = (2 * m) := List.length_replicate
  refine WL.op (d := 7) (.pointer (some ⟨b4, 0, none⟩)) (k := ?_)
  refine WL.nil ?_
  refine WX.seqN ?_
  refine WC.seq ?_
  refine WC.seq ?_
  refine WC.region ?_
  refine WL.op (d := 29) (.pointer (some ⟨b4, 0, none⟩)) (k := ?_)
  refine WL.op (d := 30) (.bool false) (k := ?_)
  refine WL.nil ?_
  refine WX.seqN ?_
  refine WC.condF (k := ?_)
  refine WC.skip ?_
  refine WX.seqN ?_
  refine WC.seq ?_
  refine WC.region ?_
  refine WL.op (d := 8) (.string ⟨#[]⟩) (k := ?_)
  refine WL.nil ?_
  refine WX.seqN ?_
  refine WC.seq ?_
  refine WC.region ?_
  refine WL.op (d := 9) (.bool false) (k := ?_)
  refine WL.nil ?_
  refine WX.seqN ?_
  refine WC.seq ?_
  refine WC.seq ?_
  refine WC.region ?_
  refine WL.op (d := 10) (.int .i64 0) (k := ?_)
  refine WL.nil ?_
  refine WX.seqN ?_
  refine WC.block ?_
  refine WC.rw (t := 9) (v := .bool (decide (¬ (0 : Nat) = 0))) ((show Value.bool false = Value.bool (decide (¬ (0 : Nat) = 0)) from congrArg Value.bool (by decide))) (k := ?_)
  refine WC.rw (t := 10) (v := .int .i64 ((0 : Nat) : Int)) ((show Value.int .i64 0 = Value.int .i64 ((0 : Nat) : Int) from rfl)) (k := ?_)
  refine WC.loop (ι := Nat × Nat × (List UInt8) × Int × (List (List UInt8)) × Int × (Nat → Prop)) (fun (⟨j, E, T, L, sc, rd, Si⟩ : Nat × Nat × (List UInt8) × Int × (List (List UInt8)) × Int × (Nat → Prop)) => [(0, .int .i64 k), (1, .slice A tr.length ca), (22, .bool true), (5, .bool true), (23, .int .i64 k), (24, .int .i64 ((m : Int) - 1)), (25, .int .i64 (m : Int)), (6, .int .i64 (m : Int)), (26, .int .i64 (m : Int)), (27, .int .i64 ((2 * m : Nat) : Int)), (28, .pointer (some ⟨b4, 0, none⟩)), (7, .pointer (some ⟨b4, 0, none⟩)), (29, .pointer (some ⟨b4, 0, none⟩)), (30, .bool false), (10, .int .i64 (j : Int)), (8, .string ⟨(T).toArray⟩), (9, .bool (decide (¬ E = 0)))]) (fun (⟨j, E, T, L, sc, rd, Si⟩ : Nat × Nat × (List UInt8) × Int × (List (List UInt8)) × Int × (Nat → Prop)) (w_ : World) => (Keeps (fun _ => False) w w_) ∧ (DiskAt Si b4 (⟨sc, [], 0, rd⟩ : GDisk) w_) ∧ (∀ k, Si k → (fun _ => False) k ∨ w.heap.size ≤ k) ∧ (j ≤ 10) ∧ (SSt m j sc E T L)) (fun (⟨j, E, T, L, sc, rd, Si⟩ : Nat × Nat × (List UInt8) × Int × (List (List UInt8)) × Int × (Nat → Prop)) => (10 - j)) (0, 0, [], (-1), List.replicate (2 * m) (List.replicate 64 (0 : UInt8)), 0, S5) ⟨(by kernel_rfl), (by kernel_rfl), (by kernel_rfl), (by kernel_rfl), (by kernel_rfl), (by kernel_rfl), (by kernel_rfl), (by kernel_rfl), (by kernel_rfl), (by kernel_rfl), (by kernel_rfl), (by kernel_rfl), (by kernel_rfl), (by kernel_rfl), (by kernel_rfl), (by kernel_rfl), (by kernel_rfl), trivial⟩ ⟨K, hd7, lk10, (by decide), (SSt.zero (by omega) 0)⟩ ?_
  rintro ⟨j, E, T, L, sc, rd, Si⟩ w13 ⟨K, hb14, lk15, j1, hl⟩
  refine WC.seq ?_
  refine WC.seq ?_
  refine WC.region ?_
  refine WL.op (d := 31) (.int .i64 (j : Int)) (k := ?_)
  refine WL.op (d := 32) (.slice A tr.length ca) (k := ?_)
  refine WL.op (d := 33) (.int .i64 (tr.length : Int)) (k := ?_)
  refine WL.op (d := 34) (.bool (decide ((j : Int) < (tr.length : Int)))) (k := ?_)
  refine WL.op (d := 35) (.bool (decide ((j : Int) < (tr.length : Int)))) (k := ?_)
  refine bsplit (decide ((j : Int) < (tr.length : Int))) (fun h16 => ?_) (fun h16 => ?_)
  · have ph16 := of_decide_eq_true h16
    refine WL.rw (t := 35) (v := .bool true) (congrArg Value.bool h16) (k := ?_)
    refine WL.op (d := 36) (.int .i64 (j : Int)) (k := ?_)
    refine WL.op (d := 37) (.bool (decide ((j : Int) < 10))) (k := ?_)
    refine WL.op (d := 38) (.bool (decide ((j : Int) < 10))) (k := ?_)
    refine WL.nil ?_
    refine WX.seqN ?_
    refine WC.cond (b := decide ((j : Int) < 10)) (ht := fun h17 => ?_) (hf := fun h17 => ?_)
    · have ph17 := of_decide_eq_true h17
      refine WC.skip ?_
      refine WX.seqN ?_
      refine WC.seq ?_
      refine WC.block ?_
      refine WC.seq ?_
      refine WC.region ?_
      refine WL.op (d := 41) (.slice A tr.length ca) (k := ?_)
      refine WL.op (d := 42) (.int .i64 (j : Int)) (k := ?_)
      obtain ⟨b18, o19, r20, hr21, hA22, he23⟩ := SlAt.at hA (i := (j : Int)) (by omega) (by omega)
      refine WL.rw (t := 41) (v := .slice (some ⟨b18, o19, none⟩) tr.length ca) (congrArg (fun a => Value.slice a tr.length ca) hA22) (k := ?_)
      obtain ⟨ht24, hf25, hl26⟩ := hTr _ (List.mem_of_getElem? hr21)
      refine WL.idx (T := 56) (E := 57) (m := 3) (b := b18) (o := o19) (len := tr.length) (cap := ca) (i := (j : Int)) (kk := .i64) (d := 43) (by omega) (by omega) (k := ?_)
      refine WL.rw (t := 41) (v := .slice A tr.length ca) (congrArg (fun a => Value.slice a tr.length ca) (Eq.symm hA22)) (k := ?_)
      refine WL.load (v := .agg #[.string ⟨(r20.t).toArray⟩, .int .i64 r20.f, .slice r20.A r20.fs.length r20.c]) ((he23.adds K).ldW (T := 57)) (k := ?_)
      refine WL.new (d := 11) (T := 57) #[.string ⟨#[]⟩, .int .i64 0, .slice none 0 0] (k := fun b27 w28 g29 hb30 k31 => ?_)
      have z32 := Nat.le_trans K.size g29
      have n33 : ¬ Si b27 := fun h => absurd (hb14.lt _ h) (Nat.not_lt.2 g29)
      replace hb14 := hb14.adds k31
      replace K := K.trans (k31.any _)
      refine WL.store (v := .agg #[.string ⟨(r20.t).toArray⟩, .int .i64 r20.f, .slice r20.A r20.fs.length r20.c]) (i := 0) (cs' := #[.string ⟨(r20.t).toArray⟩, .int .i64 r20.f, .slice r20.A r20.fs.length r20.c]) hb30 (k := fun w34 hb35 k36 => ?_)
      replace hb14 := hb14.keeps k36 (fun i hi e => n33 (e ▸ hi))
      replace K := K.trans' k36 (fun i hi e => absurd (e ▸ hi) (Nat.not_lt.2 z32))
      clear hb30
      refine WL.nil ?_
      refine WX.seqN ?_
      refine WC.seq ?_
      refine WC.region ?_
      refine WL.op (d := 45) (.pointer (some ⟨b4, 0, none⟩)) (k := ?_)
      refine WL.op (d := 46) (.int .i64 (m : Int)) (k := ?_)
      refine WL.callG (d := 47) (f := 31) (args := #[.pointer (some ⟨b4, 0, none⟩), .int .i64 0, .int .i64 (m : Int)]) (svNew_ok (at_ := 0) (k := (m : Int)) hb14 (by omega) (by omega) ⟨by decide, by omega, by omega, by show (0 : Int) ≤ ((sc).length : Int) - 2 * (m : Int); rw [hl.len]; omega⟩) (k := fun e_ w37 h_ => ?_)
      obtain ⟨b38, rfl, g39, hb40, k41⟩ := h_
      refine ⟨_, rfl, ?_⟩
      have z42 := Nat.le_trans K.size g39
      have n43 : ¬ Si b38 := fun h => absurd (hb14.lt _ h) (Nat.not_lt.2 g39)
      have n44 : b27 ≠ b38 := Nat.ne_of_lt (Nat.lt_of_lt_of_le (lt_of_heap hb35) g39)
      replace hb14 := hb14.adds k41
      replace hb35 := k41.heap hb35 id
      replace K := K.trans (k41.any _)
      refine WL.op (d := 12) (.pointer (some ⟨b38, 0, none⟩)) (k := ?_)
      refine WL.nil ?_
      refine WX.seqN ?_
      refine WC.seq ?_
      refine WC.seq ?_
      refine WC.region ?_
      refine WL.op (d := 48) (.pointer (some ⟨b38, 0, none⟩)) (k := ?_)
      refine WL.op (d := 49) (.bool false) (k := ?_)
      refine WL.nil ?_
      refine WX.seqN ?_
      refine WC.condF (k := ?_)
      refine WC.skip ?_
      refine WX.seqN ?_
      refine WC.seq ?_
      refine WC.region ?_
      refine WL.op (d := 51) (.pointer (some ⟨b38, 0, none⟩)) (k := ?_)
      refine WL.callG (d := 52) (f := 32) (args := #[.pointer (some ⟨b38, 0, none⟩)]) (svRead_safe (n := m) hb40 hb14 n43 hl (by omega) (by omega) (by omega)) (k := fun e_ w45 h_ => ?_)
      obtain ⟨rd46, N47, rfl, hb48, hd49, k50, hN51⟩ := h_
      refine ⟨_, rfl, ?_⟩
      replace K := K.trans' k50 (fun i hi e => e.elim (fun e => absurd (e ▸ hi) (Nat.not_lt.2 z42)) (fun e => (lk15 i e).elim (fun h => h.elim) (fun h => absurd hi (Nat.not_lt.2 h))))
      replace hb35 := k50.heap hb35 (not_or.2 ⟨n44, n33⟩)
      clear hb40 hb14
      refine WL.op (d := 50) (.tuple #[.agg #[.int .u64 ((E : Nat) : Int), .string ⟨(T).toArray⟩], .bool (decide (¬ E = 0)), .int .i64 0]) (k := ?_)
      refine WL.op (d := 53) (.agg #[.int .u64 ((E : Nat) : Int), .string ⟨(T).toArray⟩]) (k := ?_)
      refine WL.op (d := 54) (.bool (decide (¬ E = 0))) (k := ?_)
      refine WL.op (d := 55) (.int .i64 0) (k := ?_)
      refine WL.new (d := 13) (T := 61) #[.int .u64 0, .string ⟨#[]⟩] (k := fun b52 w53 g54 hb55 k56 => ?_)
      have z57 := Nat.le_trans K.size g54
      have n58 : ¬ Si b52 := fun h => absurd (hd49.lt _ h) (Nat.not_lt.2 g54)
      have n59 : b27 ≠ b52 := Nat.ne_of_lt (Nat.lt_of_lt_of_le (lt_of_heap hb35) g54)
      have n60 : b38 ≠ b52 := Nat.ne_of_lt (Nat.lt_of_lt_of_le (lt_of_heap hb48) g54)
      replace hd49 := hd49.adds k56
      replace hb35 := k56.heap hb35 id
      replace hb48 := k56.heap hb48 id
      replace K := K.trans (k56.any _)
      refine WL.store (v := .agg #[.int .u64 ((E : Nat) : Int), .string ⟨(T).toArray⟩]) (i := 0) (cs' := #[.int .u64 ((E : Nat) : Int), .string ⟨(T).toArray⟩]) hb55 (k := fun w61 hb62 k63 => ?_)
      replace hd49 := hd49.keeps k63 (fun i hi e => n58 (e ▸ hi))
      replace hb35 := k63.heap hb35 n59
      replace hb48 := k63.heap hb48 n60
      replace K := K.trans' k63 (fun i hi e => absurd (e ▸ hi) (Nat.not_lt.2 z57))
      clear hb55
      refine WL.op (d := 14) (.bool (decide (¬ E = 0))) (k := ?_)
      refine WL.op (d := 15) (.int .i64 0) (k := ?_)
      refine WL.nil ?_
      refine WX.seqN ?_
      refine WC.seq ?_
      refine WC.seq ?_
      refine WC.region ?_
      refine WL.op (d := 56) (.int .i64 0) (k := ?_)
      refine WL.op (d := 57) (.bool false) (k := ?_)
      refine WL.op (d := 58) (.bool false) (k := ?_)
      refine WL.op (d := 59) (.bool (decide (¬ E = 0))) (k := ?_)
      refine WL.op (d := 60) (.bool (decide (¬ E = 0))) (k := ?_)
      refine WL.op (d := 61) (.bool (!((decide (¬ E = 0)) == (decide (¬ E = 0))))) (k := ?_)
      refine WL.op (d := 62) (.bool (!((decide (¬ E = 0)) == (decide (¬ E = 0))))) (k := ?_)
      refine WL.op (d := 63) (.bool (!((decide (¬ E = 0)) == (decide (¬ E = 0))))) (k := ?_)
      refine bsplit (!((decide (¬ E = 0)) == (decide (¬ E = 0)))) (fun h64 => ?_) (fun h64 => ?_)
      · have h65 : ((decide (¬ E = 0)) == (decide (¬ E = 0))) = false := Bool.not_inj (y := false) h64
        have ph65 := ne_of_beq_false h65
        refine WL.rw (t := 63) (v := .bool true) (congrArg Value.bool h64) (k := ?_)
        refine WL.skip (d := 64) (k := ?_)
        refine WL.skip (d := 65) (k := ?_)
        refine WL.skip (d := 66) (k := ?_)
        refine WL.skip (d := 67) (k := ?_)
        refine WL.op (d := 68) (.bool true) (k := ?_)
        refine WL.nil ?_
        refine WX.seqN ?_
        refine WC.condT (k := ?_)
        refine WC.seq ?_
        refine WC.region ?_
        refine WL.op (d := 4) (.bool false) (k := ?_)
        refine WL.nil ?_
        refine WX.seqN ?_
        refine WC.ret ?_
        refine WX.seqR ?_
        refine WX.blockR ?_
        refine WX.seqR ?_
        refine WX.seqR ?_
        refine WX.blockR ?_
        refine WX.seqR ?_
        refine WX.ret (rs := [.tmp 4]) [.bool false] (.bool false) ⟨(by kernel_rfl), trivial⟩ (k := ?_)
        exfalso; first | (simp at h16; done) | (simp at h17; done) | (simp at h64; done) | (simp at h65; done)
      · have h66 : ((decide (¬ E = 0)) == (decide (¬ E = 0))) = true := Bool.not_inj (y := true) h64
        have ph66 := eq_of_beq h66
        refine WL.rw (t := 63) (v := .bool false) (congrArg Value.bool h64) (k := ?_)
        refine WL.op (d := 64) (.pointer (some ⟨b52, 1, none⟩)) (k := ?_)
        refine WL.load (v := .string ⟨(T).toArray⟩) (ld1 (T := 9) (i := 1) hb62) (k := ?_)
        refine WL.op (d := 66) (.string ⟨(T).toArray⟩) (k := ?_)
        refine WL.opE (d := 67) (.bool !(ByteArray.toList ⟨(T).toArray⟩ == ByteArray.toList ⟨(T).toArray⟩)) (v := .bool (!(decide (T = T)))) (str_neq _ _) (k := ?_)
        refine WL.op (d := 68) (.bool (!(decide (T = T)))) (k := ?_)
        refine WL.nil ?_
        refine WX.seqN ?_
        refine WC.cond (b := !(decide (T = T))) (ht := fun h67 => ?_) (hf := fun h67 => ?_)
        · have h68 : (decide (T = T)) = false := Bool.not_inj (y := false) h67
          have ph68 := of_decide_eq_false h68
          refine WC.seq ?_
          refine WC.region ?_
          refine WL.op (d := 4) (.bool false) (k := ?_)
          refine WL.nil ?_
          refine WX.seqN ?_
          refine WC.ret ?_
          refine WX.seqR ?_
          refine WX.blockR ?_
          refine WX.seqR ?_
          refine WX.seqR ?_
          refine WX.blockR ?_
          refine WX.seqR ?_
          refine WX.ret (rs := [.tmp 4]) [.bool false] (.bool false) ⟨(by kernel_rfl), trivial⟩ (k := ?_)
          exfalso; first | (simp at h16; done) | (simp at h17; done) | (simp at h64; done) | (simp at h66; done) | (simp at h67; done) | (simp at h68; done)
        · have h69 : (decide (T = T)) = true := Bool.not_inj (y := true) h67
          have ph69 := of_decide_eq_true h69
          refine WC.skip ?_
          refine WX.seqN ?_
          refine WC.seq ?_
          refine WC.region ?_
          refine WL.op (d := 69) (.pointer (some ⟨b27, 0, none⟩)) (k := ?_)
          refine WL.load (v := .string ⟨(r20.t).toArray⟩) (ld1 (T := 9) (i := 0) hb35) (k := ?_)
          refine WL.op (d := 71) (.int .i64 (m : Int)) (k := ?_)
          refine WL.opE (d := 72) (.int .i64 (IntKind.i64.wrap (43 * (m : Int)))) (v := .int .i64 ((43 * m : Nat) : Int)) (congrArg (Value.int .i64) ((IntWalk.i64_in _ (by omega)).trans (by omega))) (k := ?_)
          refine WL.callG (d := 73) (f := 33) (args := #[.string ⟨(r20.t).toArray⟩, .int .i64 ((43 * m : Nat) : Int)]) (l06short_c r20.t (43 * m) (by omega) (by omega) w61) (k := fun e_ w71 h_ => ⟨.string ⟨(List.take (43 * m) r20.t).toArray⟩, h_.1, ?_⟩)
          have k72 := h_.2; clear h_
          replace hd49 := hd49.adds k72
          replace hb35 := k72.heap hb35 id
          replace hb48 := k72.heap hb48 id
          replace hb62 := k72.heap hb62 id
          replace K := K.trans (k72.any _)
          have tl70 : (List.take (43 * m) r20.t).length ≤ 43 * m := List.length_take_le _ _
          refine WL.op (d := 16) (.string ⟨(List.take (43 * m) r20.t).toArray⟩) (k := ?_)
          refine WL.nil ?_
          refine WX.seqN ?_
          refine WC.seq ?_
          refine WC.region ?_
          refine WL.op (d := 74) (.pointer (some ⟨b4, 0, none⟩)) (k := ?_)
          refine WL.op (d := 75) (.pointer (some ⟨b27, 1, none⟩)) (k := ?_)
          refine WL.load (v := .int .i64 r20.f) (ld1 (T := 3) (i := 1) hb35) (k := ?_)
          refine WL.bin (d := 77) (v := .int .i64 (bits BinOp.and IntKind.i64 r20.f 7)) (bits_run (by decide)) (k := ?_)
          obtain ⟨an73, ha74⟩ : ∃ q : Int, bits BinOp.and IntKind.i64 r20.f 7 = q := ⟨_, rfl⟩
          have ar75 := and7_eq (x := r20.f)
          rw [ha74] at ar75
          refine WL.rw (t := 77) (v := .int .i64 an73) (congrArg (Value.int .i64) ha74) (k := ?_)
          refine WL.callG (d := 78) (f := 12) (args := #[.pointer (some ⟨b4, 0, none⟩), .int .i64 an73]) (dFail_at (f := an73) hd49 (by omega) (by omega)) (k := fun e_ w76 h_ => ?_)
          obtain ⟨rfl, hd77, k78⟩ := h_
          refine ⟨_, rfl, ?_⟩
          replace hb35 := k78.heap hb35 n33
          replace hb48 := k78.heap hb48 n43
          replace hb62 := k78.heap hb62 n58
          replace K := K.trans' k78 (fun i hi e => (lk15 i e).elim (fun h => h.elim) (fun h => absurd hi (Nat.not_lt.2 h)))
          clear hd49
          refine WL.nil ?_
          refine WX.seqN ?_
          refine WC.seq ?_
          refine WC.region ?_
          refine WL.op (d := 80) (.pointer (some ⟨b38, 0, none⟩)) (k := ?_)
          refine WL.op (d := 81) (.string ⟨(List.take (43 * m) r20.t).toArray⟩) (k := ?_)
          refine WL.callG (d := 82) (f := 34) (args := #[.pointer (some ⟨b38, 0, none⟩), .string ⟨(List.take (43 * m) r20.t).toArray⟩]) (svWrite_any (n := m) (l := List.take (43 * m) r20.t) hb48 hd77 n43 hl hN51 (by omega) (by omega) (by omega) (by omega) (by omega)) (k := fun e_ w79 h_ => ?_)
          obtain ⟨S80, M81, R82, va83, vb84, vc85, dv86, rfl, hb87, hd88, lk89, n90, k91, hA92⟩ := h_
          refine ⟨_, rfl, ?_⟩
          have n93 : ¬ S80 b27 := fun h => (lk89 _ h).elim n33 (fun h2 => absurd (lt_of_heap hb35) (Nat.not_lt.2 h2))
          have n94 : ¬ S80 b52 := fun h => (lk89 _ h).elim n58 (fun h2 => absurd (lt_of_heap hb62) (Nat.not_lt.2 h2))
          have lk95 := lk_step lk15 lk89 K
          replace K := K.trans' k91 (fun i hi e => e.elim (fun e => absurd (e ▸ hi) (Nat.not_lt.2 z42)) (fun e => (lk15 i e).elim (fun h => h.elim) (fun h => absurd hi (Nat.not_lt.2 h))))
          replace hb35 := k91.heap hb35 (not_or.2 ⟨n44, n33⟩)
          replace hb62 := k91.heap hb62 (not_or.2 ⟨Ne.symm n60, n58⟩)
          clear hb48 hd77
          refine WL.op (d := 79) (.tuple #[.int .u64 ((M81 : Nat) : Int), .int .i64 R82]) (k := ?_)
          refine WL.op (d := 83) (.int .u64 ((M81 : Nat) : Int)) (k := ?_)
          refine WL.op (d := 84) (.int .i64 R82) (k := ?_)
          refine WL.op (d := 17) (.int .u64 ((M81 : Nat) : Int)) (k := ?_)
          refine WL.op (d := 18) (.int .i64 R82) (k := ?_)
          refine WL.nil ?_
          refine WX.seqN ?_
          refine WC.seq ?_
          refine WC.region ?_
          refine WL.op (d := 85) (.pointer (some ⟨b4, 0, none⟩)) (k := ?_)
          refine WL.op (d := 86) (.pointer (some ⟨b27, 2, none⟩)) (k := ?_)
          refine WL.load (v := .slice r20.A r20.fs.length r20.c) (ld1 (T := 39) (i := 2) hb35) (k := ?_)
          refine WL.callG (d := 88) (f := 14) (args := #[.pointer (some ⟨b4, 0, none⟩), .slice r20.A r20.fs.length r20.c]) (dCrash_c (fs := r20.fs) (cf := r20.c) hd88 (hf25.adds K) (fun hx p hp hs => (lk95 _ hs).elim (fun h => h) (fun h => absurd (hf25.lt hx p hp) (Nat.not_lt.2 h))) (by omega)) (k := fun e_ w96 h_ => ?_)
          obtain ⟨rfl, S97, hd99, lk98, k100⟩ := h_
          refine ⟨_, rfl, ?_⟩
          have n101 : ¬ S97 b27 := fun h => (lk98 _ h).elim n93 (fun h2 => absurd (lt_of_heap hb35) (Nat.not_lt.2 h2))
          have n102 : ¬ S97 b52 := fun h => (lk98 _ h).elim n94 (fun h2 => absurd (lt_of_heap hb62) (Nat.not_lt.2 h2))
          have n103 : ¬ S97 b38 := fun h => (lk98 _ h).elim n90 (fun h2 => absurd (lt_of_heap hb87) (Nat.not_lt.2 h2))
          have lk104 := lk_step lk95 lk98 K
          replace hb35 := k100.heap hb35 n93
          replace hb87 := k100.heap hb87 n90
          replace hb62 := k100.heap hb62 n94
          replace K := K.trans' k100 (fun i hi e => (lk95 i e).elim (fun h => h.elim) (fun h => absurd hi (Nat.not_lt.2 h)))
          clear hd88
          obtain ⟨sc105, E106, T107, L108, hc109, lay110, ht111⟩ := hA92 r20.fs
          rw [hc109] at hd99
          refine WL.nil ?_
          refine WX.seqN ?_
          refine WC.seq ?_
          refine WC.region ?_
          refine WL.op (d := 90) (.pointer (some ⟨b38, 0, none⟩)) (k := ?_)
          refine WL.callG (d := 91) (f := 32) (args := #[.pointer (some ⟨b38, 0, none⟩)]) (svRead_safe (n := m) hb87 hd99 n103 lay110 (by omega) (by omega) (by omega)) (k := fun e_ w112 h_ => ?_)
          obtain ⟨rd113, N114, rfl, hb115, hd116, k117, hN118⟩ := h_
          refine ⟨_, rfl, ?_⟩
          replace K := K.trans' k117 (fun i hi e => e.elim (fun e => absurd (e ▸ hi) (Nat.not_lt.2 z42)) (fun e => (lk104 i e).elim (fun h => h.elim) (fun h => absurd hi (Nat.not_lt.2 h))))
          replace hb35 := k117.heap hb35 (not_or.2 ⟨n44, n101⟩)
          replace hb62 := k117.heap hb62 (not_or.2 ⟨Ne.symm n60, n102⟩)
          clear hb87 hd99
          refine WL.op (d := 89) (.tuple #[.agg #[.int .u64 ((E106 : Nat) : Int), .string ⟨(T107).toArray⟩], .bool (decide (¬ E106 = 0)), .int .i64 0]) (k := ?_)
          refine WL.op (d := 92) (.agg #[.int .u64 ((E106 : Nat) : Int), .string ⟨(T107).toArray⟩]) (k := ?_)
          refine WL.op (d := 93) (.bool (decide (¬ E106 = 0))) (k := ?_)
          refine WL.op (d := 94) (.int .i64 0) (k := ?_)
          refine WL.new (d := 19) (T := 61) #[.int .u64 0, .string ⟨#[]⟩] (k := fun b119 w120 g121 hb122 k123 => ?_)
          have z124 := Nat.le_trans K.size g121
          have n125 : ¬ S97 b119 := fun h => absurd (hd116.lt _ h) (Nat.not_lt.2 g121)
          have n126 : b27 ≠ b119 := Nat.ne_of_lt (Nat.lt_of_lt_of_le (lt_of_heap hb35) g121)
          have n127 : b38 ≠ b119 := Nat.ne_of_lt (Nat.lt_of_lt_of_le (lt_of_heap hb115) g121)
          have n128 : b52 ≠ b119 := Nat.ne_of_lt (Nat.lt_of_lt_of_le (lt_of_heap hb62) g121)
          replace hd116 := hd116.adds k123
          replace hb35 := k123.heap hb35 id
          replace hb115 := k123.heap hb115 id
          replace hb62 := k123.heap hb62 id
          replace K := K.trans (k123.any _)
          refine WL.store (v := .agg #[.int .u64 ((E106 : Nat) : Int), .string ⟨(T107).toArray⟩]) (i := 0) (cs' := #[.int .u64 ((E106 : Nat) : Int), .string ⟨(T107).toArray⟩]) hb122 (k := fun w129 hb130 k131 => ?_)
          replace hd116 := hd116.keeps k131 (fun i hi e => n125 (e ▸ hi))
          replace hb35 := k131.heap hb35 n126
          replace hb115 := k131.heap hb115 n127
          replace hb62 := k131.heap hb62 n128
          replace K := K.trans' k131 (fun i hi e => absurd (e ▸ hi) (Nat.not_lt.2 z124))
          clear hb122
          refine WL.op (d := 20) (.bool (decide (¬ E106 = 0))) (k := ?_)
          refine WL.op (d := 21) (.int .i64 0) (k := ?_)
          refine WL.nil ?_
          refine WX.seqN ?_
          refine WC.seq ?_
          refine WC.seq ?_
          refine WC.region ?_
          refine WL.op (d := 95) (.int .i64 0) (k := ?_)
          refine WL.op (d := 96) (.bool false) (k := ?_)
          refine WL.op (d := 97) (.bool false) (k := ?_)
          refine WL.op (d := 98) (.int .i64 R82) (k := ?_)
          refine WL.op (d := 99) (.bool (R82 == 0)) (k := ?_)
          refine WL.op (d := 100) (.bool (R82 == 0)) (k := ?_)
          refine bsplit (R82 == 0) (fun h132 => ?_) (fun h132 => ?_)
          · have ph132 := eq_of_beq h132
            refine WL.rw (t := 100) (v := .bool true) (congrArg Value.bool h132) (k := ?_)
            refine WL.op (d := 101) (.bool (decide (¬ E106 = 0))) (k := ?_)
            refine WL.op (d := 102) (.bool (!(decide (¬ E106 = 0)))) (k := ?_)
            refine WL.op (d := 103) (.bool (!(decide (¬ E106 = 0)))) (k := ?_)
            refine bsplit (!(decide (¬ E106 = 0))) (fun h133 => ?_) (fun h133 => ?_)
            · have h134 : (decide (¬ E106 = 0)) = false := Bool.not_inj (y := false) h133
              have ph134 := of_decide_eq_false h134
              refine WL.rw (t := 103) (v := .bool true) (congrArg Value.bool h133) (k := ?_)
              refine WL.skip (d := 104) (k := ?_)
              refine WL.skip (d := 105) (k := ?_)
              refine WL.skip (d := 106) (k := ?_)
              refine WL.skip (d := 107) (k := ?_)
              refine WL.op (d := 108) (.bool true) (k := ?_)
              refine WL.op (d := 109) (.bool true) (k := ?_)
              refine WL.op (d := 110) (.bool true) (k := ?_)
              refine WL.op (d := 111) (.bool true) (k := ?_)
              refine WL.skip (d := 112) (k := ?_)
              refine WL.skip (d := 113) (k := ?_)
              refine WL.skip (d := 114) (k := ?_)
              refine WL.skip (d := 115) (k := ?_)
              refine WL.skip (d := 116) (k := ?_)
              refine WL.skip (d := 117) (k := ?_)
              refine WL.op (d := 118) (.bool true) (k := ?_)
              refine WL.nil ?_
              refine WX.seqN ?_
              refine WC.condT (k := ?_)
              refine WC.seq ?_
              refine WC.region ?_
              refine WL.op (d := 4) (.bool false) (k := ?_)
              refine WL.nil ?_
              refine WX.seqN ?_
              refine WC.ret ?_
              refine WX.seqR ?_
              refine WX.blockR ?_
              refine WX.seqR ?_
              refine WX.seqR ?_
              refine WX.blockR ?_
              refine WX.seqR ?_
              refine WX.ret (rs := [.tmp 4]) [.bool false] (.bool false) ⟨(by kernel_rfl), trivial⟩ (k := ?_)
              exfalso; rcases ht111 with ⟨q1_, q2_, q3_⟩ | ⟨q1_, ⟨q2_, q3_⟩ | ⟨q2_, q3_⟩⟩ <;> simp_all
            · have h135 : (decide (¬ E106 = 0)) = true := Bool.not_inj (y := true) h133
              have ph135 := of_decide_eq_true h135
              refine WL.rw (t := 103) (v := .bool false) (congrArg Value.bool h133) (k := ?_)
              refine WL.op (d := 104) (.pointer (some ⟨b119, 1, none⟩)) (k := ?_)
              refine WL.load (v := .string ⟨(T107).toArray⟩) (ld1 (T := 9) (i := 1) hb130) (k := ?_)
              refine WL.op (d := 106) (.string ⟨(List.take (43 * m) r20.t).toArray⟩) (k := ?_)
              refine WL.opE (d := 107) (.bool !(ByteArray.toList ⟨(T107).toArray⟩ == ByteArray.toList ⟨(List.take (43 * m) r20.t).toArray⟩)) (v := .bool (!(decide (T107 = List.take (43 * m) r20.t)))) (str_neq _ _) (k := ?_)
              refine WL.op (d := 108) (.bool (!(decide (T107 = List.take (43 * m) r20.t)))) (k := ?_)
              refine WL.op (d := 109) (.bool (!(decide (T107 = List.take (43 * m) r20.t)))) (k := ?_)
              refine WL.op (d := 110) (.bool (!(decide (T107 = List.take (43 * m) r20.t)))) (k := ?_)
              refine WL.op (d := 111) (.bool (!(decide (T107 = List.take (43 * m) r20.t)))) (k := ?_)
              refine bsplit (!(decide (T107 = List.take (43 * m) r20.t))) (fun h136 => ?_) (fun h136 => ?_)
              · have h137 : (decide (T107 = List.take (43 * m) r20.t)) = false := Bool.not_inj (y := false) h136
                have ph137 := of_decide_eq_false h137
                refine WL.rw (t := 111) (v := .bool true) (congrArg Value.bool h136) (k := ?_)
                refine WL.skip (d := 112) (k := ?_)
                refine WL.skip (d := 113) (k := ?_)
                refine WL.skip (d := 114) (k := ?_)
                refine WL.skip (d := 115) (k := ?_)
                refine WL.skip (d := 116) (k := ?_)
                refine WL.skip (d := 117) (k := ?_)
                refine WL.op (d := 118) (.bool true) (k := ?_)
                refine WL.nil ?_
                refine WX.seqN ?_
                refine WC.condT (k := ?_)
                refine WC.seq ?_
                refine WC.region ?_
                refine WL.op (d := 4) (.bool false) (k := ?_)
                refine WL.nil ?_
                refine WX.seqN ?_
                refine WC.ret ?_
                refine WX.seqR ?_
                refine WX.blockR ?_
                refine WX.seqR ?_
                refine WX.seqR ?_
                refine WX.blockR ?_
                refine WX.seqR ?_
                refine WX.ret (rs := [.tmp 4]) [.bool false] (.bool false) ⟨(by kernel_rfl), trivial⟩ (k := ?_)
                exfalso; rcases ht111 with ⟨q1_, q2_, q3_⟩ | ⟨q1_, ⟨q2_, q3_⟩ | ⟨q2_, q3_⟩⟩ <;> simp_all
              · have h138 : (decide (T107 = List.take (43 * m) r20.t)) = true := Bool.not_inj (y := true) h136
                have ph138 := of_decide_eq_true h138
                refine WL.rw (t := 111) (v := .bool false) (congrArg Value.bool h136) (k := ?_)
                refine WL.op (d := 112) (.int .i64 R82) (k := ?_)
                refine WL.op (d := 113) (.bool (R82 != 0)) (k := ?_)
                refine WL.op (d := 114) (.bool (R82 != 0)) (k := ?_)
                refine bsplit (R82 != 0) (fun h139 => ?_) (fun h139 => ?_)
                · have ph139 := bne_iff_ne.1 h139
                  refine WL.rw (t := 114) (v := .bool true) (congrArg Value.bool h139) (k := ?_)
                  refine WL.op (d := 115) (.int .i64 R82) (k := ?_)
                  refine WL.op (d := 116) (.bool (R82 != 18)) (k := ?_)
                  refine WL.op (d := 117) (.bool (R82 != 18)) (k := ?_)
                  refine WL.op (d := 118) (.bool (R82 != 18)) (k := ?_)
                  refine WL.nil ?_
                  refine WX.seqN ?_
                  refine WC.cond (b := R82 != 18) (ht := fun h140 => ?_) (hf := fun h140 => ?_)
                  · have ph140 := bne_iff_ne.1 h140
                    refine WC.seq ?_
                    refine WC.region ?_
                    refine WL.op (d := 4) (.bool false) (k := ?_)
                    refine WL.nil ?_
                    refine WX.seqN ?_
                    refine WC.ret ?_
                    refine WX.seqR ?_
                    refine WX.blockR ?_
                    refine WX.seqR ?_
                    refine WX.seqR ?_
                    refine WX.blockR ?_
                    refine WX.seqR ?_
                    refine WX.ret (rs := [.tmp 4]) [.bool false] (.bool false) ⟨(by kernel_rfl), trivial⟩ (k := ?_)
                    exfalso; rcases ht111 with ⟨q1_, q2_, q3_⟩ | ⟨q1_, ⟨q2_, q3_⟩ | ⟨q2_, q3_⟩⟩ <;> simp_all
                  · have ph140 := of_bne_false h140
                    refine WC.skip ?_
                    refine WX.seqN ?_
                    refine WC.seq ?_
                    refine WC.seq ?_
                    refine WC.region ?_
                    refine WL.op (d := 119) (.bool (decide (¬ E106 = 0))) (k := ?_)
                    refine WL.op (d := 120) (.bool (decide (¬ E106 = 0))) (k := ?_)
                    refine WL.rw (t := 120) (v := .bool true) (congrArg Value.bool h135) (k := ?_)
                    refine WL.op (d := 121) (.pointer (some ⟨b119, 1, none⟩)) (k := ?_)
                    refine WL.load (v := .string ⟨(T107).toArray⟩) (ld1 (T := 9) (i := 1) hb130) (k := ?_)
                    refine WL.op (d := 123) (.string ⟨(List.take (43 * m) r20.t).toArray⟩) (k := ?_)
                    refine WL.opE (d := 124) (.bool (ByteArray.toList ⟨(T107).toArray⟩ == ByteArray.toList ⟨(List.take (43 * m) r20.t).toArray⟩)) (v := .bool (decide (T107 = List.take (43 * m) r20.t))) (str_eql _ _) (k := ?_)
                    refine WL.op (d := 125) (.bool (decide (T107 = List.take (43 * m) r20.t))) (k := ?_)
                    refine WL.op (d := 126) (.bool (!(decide (T107 = List.take (43 * m) r20.t)))) (k := ?_)
                    refine WL.op (d := 127) (.bool (!(decide (T107 = List.take (43 * m) r20.t)))) (k := ?_)
                    refine WL.rw (t := 127) (v := .bool false) (congrArg Value.bool h136) (k := ?_)
                    refine WL.skip (d := 128) (k := ?_)
                    refine WL.skip (d := 129) (k := ?_)
                    refine WL.skip (d := 130) (k := ?_)
                    refine WL.skip (d := 131) (k := ?_)
                    refine WL.skip (d := 132) (k := ?_)
                    refine WL.skip (d := 133) (k := ?_)
                    refine WL.skip (d := 134) (k := ?_)
                    refine WL.skip (d := 135) (k := ?_)
                    refine WL.skip (d := 136) (k := ?_)
                    refine WL.skip (d := 137) (k := ?_)
                    refine WL.op (d := 138) (.bool false) (k := ?_)
                    refine WL.nil ?_
                    refine WX.seqN ?_
                    refine WC.condF (k := ?_)
                    refine WC.skip ?_
                    refine WX.seqN ?_
                    refine WC.seq ?_
                    refine WC.region ?_
                    refine WL.op (d := 139) (.pointer (some ⟨b119, 1, none⟩)) (k := ?_)
                    refine WL.load (v := .string ⟨(T107).toArray⟩) (ld1 (T := 9) (i := 1) hb130) (k := ?_)
                    refine WL.op (d := 8) (.string ⟨(T107).toArray⟩) (k := ?_)
                    refine WL.nil ?_
                    refine WX.seqN ?_
                    refine WC.region ?_
                    refine WL.op (d := 141) (.bool (decide (¬ E106 = 0))) (k := ?_)
                    refine WL.op (d := 9) (.bool (decide (¬ E106 = 0))) (k := ?_)
                    refine WL.nil ?_
                    refine WX.blockN ?_
                    refine WX.seqN ?_
                    refine WC.region ?_
                    refine WL.op (d := 39) (.int .i64 (j : Int)) (k := ?_)
                    refine WL.opE (d := 40) (.int .i64 (IntKind.i64.wrap ((j : Int) + 1))) (v := .int .i64 ((j : Int) + 1)) (congrArg (Value.int .i64) (IntWalk.i64_in _ (by omega))) (k := ?_)
                    refine WL.op (d := 10) (.int .i64 ((j : Int) + 1)) (k := ?_)
                    refine WL.nil ?_
                    refine WX.rw (t := 10) (v := .int .i64 ((j + 1 : Nat) : Int)) ((show Value.int .i64 ((j : Int) + 1) = Value.int .i64 ((j + 1 : Nat) : Int) from congrArg (Value.int .i64) (by omega))) (k := ?_)
                    refine WX.round (j + 1, E106, T107, L108, sc105, rd113, S97) (by show (10 - (j + 1)) < (10 - j); omega) ⟨(by kernel_rfl), (by kernel_rfl), (by kernel_rfl), (by kernel_rfl), (by kernel_rfl), (by kernel_rfl), (by kernel_rfl), (by kernel_rfl), (by kernel_rfl), (by kernel_rfl), (by kernel_rfl), (by kernel_rfl), (by kernel_rfl), (by kernel_rfl), (by kernel_rfl), (by kernel_rfl), (by kernel_rfl), trivial⟩ ⟨K, hd116, lk104, (by omega), lay110⟩
                · have ph139 := of_bne_false h139
                  refine WL.rw (t := 114) (v := .bool false) (congrArg Value.bool h139) (k := ?_)
                  refine WL.skip (d := 115) (k := ?_)
                  refine WL.skip (d := 116) (k := ?_)
                  refine WL.op (d := 117) (.bool false) (k := ?_)
                  refine WL.op (d := 118) (.bool false) (k := ?_)
                  refine WL.nil ?_
                  refine WX.seqN ?_
                  refine WC.condF (k := ?_)
                  refine WC.skip ?_
                  refine WX.seqN ?_
                  refine WC.seq ?_
                  refine WC.seq ?_
                  refine WC.region ?_
                  refine WL.op (d := 119) (.bool (decide (¬ E106 = 0))) (k := ?_)
                  refine WL.op (d := 120) (.bool (decide (¬ E106 = 0))) (k := ?_)
                  refine WL.rw (t := 120) (v := .bool true) (congrArg Value.bool h135) (k := ?_)
                  refine WL.op (d := 121) (.pointer (some ⟨b119, 1, none⟩)) (k := ?_)
                  refine WL.load (v := .string ⟨(T107).toArray⟩) (ld1 (T := 9) (i := 1) hb130) (k := ?_)
                  refine WL.op (d := 123) (.string ⟨(List.take (43 * m) r20.t).toArray⟩) (k := ?_)
                  refine WL.opE (d := 124) (.bool (ByteArray.toList ⟨(T107).toArray⟩ == ByteArray.toList ⟨(List.take (43 * m) r20.t).toArray⟩)) (v := .bool (decide (T107 = List.take (43 * m) r20.t))) (str_eql _ _) (k := ?_)
                  refine WL.op (d := 125) (.bool (decide (T107 = List.take (43 * m) r20.t))) (k := ?_)
                  refine WL.op (d := 126) (.bool (!(decide (T107 = List.take (43 * m) r20.t)))) (k := ?_)
                  refine WL.op (d := 127) (.bool (!(decide (T107 = List.take (43 * m) r20.t)))) (k := ?_)
                  refine WL.rw (t := 127) (v := .bool false) (congrArg Value.bool h136) (k := ?_)
                  refine WL.skip (d := 128) (k := ?_)
                  refine WL.skip (d := 129) (k := ?_)
                  refine WL.skip (d := 130) (k := ?_)
                  refine WL.skip (d := 131) (k := ?_)
                  refine WL.skip (d := 132) (k := ?_)
                  refine WL.skip (d := 133) (k := ?_)
                  refine WL.skip (d := 134) (k := ?_)
                  refine WL.skip (d := 135) (k := ?_)
                  refine WL.skip (d := 136) (k := ?_)
                  refine WL.skip (d := 137) (k := ?_)
                  refine WL.op (d := 138) (.bool false) (k := ?_)
                  refine WL.nil ?_
                  refine WX.seqN ?_
                  refine WC.condF (k := ?_)
                  refine WC.skip ?_
                  refine WX.seqN ?_
                  refine WC.seq ?_
                  refine WC.region ?_
                  refine WL.op (d := 139) (.pointer (some ⟨b119, 1, none⟩)) (k := ?_)
                  refine WL.load (v := .string ⟨(T107).toArray⟩) (ld1 (T := 9) (i := 1) hb130) (k := ?_)
                  refine WL.op (d := 8) (.string ⟨(T107).toArray⟩) (k := ?_)
                  refine WL.nil ?_
                  refine WX.seqN ?_
                  refine WC.region ?_
                  refine WL.op (d := 141) (.bool (decide (¬ E106 = 0))) (k := ?_)
                  refine WL.op (d := 9) (.bool (decide (¬ E106 = 0))) (k := ?_)
                  refine WL.nil ?_
                  refine WX.blockN ?_
                  refine WX.seqN ?_
                  refine WC.region ?_
                  refine WL.op (d := 39) (.int .i64 (j : Int)) (k := ?_)
                  refine WL.opE (d := 40) (.int .i64 (IntKind.i64.wrap ((j : Int) + 1))) (v := .int .i64 ((j : Int) + 1)) (congrArg (Value.int .i64) (IntWalk.i64_in _ (by omega))) (k := ?_)
                  refine WL.op (d := 10) (.int .i64 ((j : Int) + 1)) (k := ?_)
                  refine WL.nil ?_
                  refine WX.rw (t := 10) (v := .int .i64 ((j + 1 : Nat) : Int)) ((show Value.int .i64 ((j : Int) + 1) = Value.int .i64 ((j + 1 : Nat) : Int) from congrArg (Value.int .i64) (by omega))) (k := ?_)
                  refine WX.round (j + 1, E106, T107, L108, sc105, rd113, S97) (by show (10 - (j + 1)) < (10 - j); omega) ⟨(by kernel_rfl), (by kernel_rfl), (by kernel_rfl), (by kernel_rfl), (by kernel_rfl), (by kernel_rfl), (by kernel_rfl), (by kernel_rfl), (by kernel_rfl), (by kernel_rfl), (by kernel_rfl), (by kernel_rfl), (by kernel_rfl), (by kernel_rfl), (by kernel_rfl), (by kernel_rfl), (by kernel_rfl), trivial⟩ ⟨K, hd116, lk104, (by omega), lay110⟩
          · have ph132 := ne_of_beq_false h132
            refine WL.rw (t := 100) (v := .bool false) (congrArg Value.bool h132) (k := ?_)
            refine WL.skip (d := 101) (k := ?_)
            refine WL.skip (d := 102) (k := ?_)
            refine WL.skip (d := 103) (k := ?_)
            refine WL.skip (d := 104) (k := ?_)
            refine WL.skip (d := 105) (k := ?_)
            refine WL.skip (d := 106) (k := ?_)
            refine WL.skip (d := 107) (k := ?_)
            refine WL.skip (d := 108) (k := ?_)
            refine WL.op (d := 109) (.bool false) (k := ?_)
            refine WL.op (d := 110) (.bool false) (k := ?_)
            refine WL.op (d := 111) (.bool false) (k := ?_)
            refine WL.op (d := 112) (.int .i64 R82) (k := ?_)
            refine WL.op (d := 113) (.bool (R82 != 0)) (k := ?_)
            refine WL.op (d := 114) (.bool (R82 != 0)) (k := ?_)
            refine bsplit (R82 != 0) (fun h141 => ?_) (fun h141 => ?_)
            · have ph141 := bne_iff_ne.1 h141
              refine WL.rw (t := 114) (v := .bool true) (congrArg Value.bool h141) (k := ?_)
              refine WL.op (d := 115) (.int .i64 R82) (k := ?_)
              refine WL.op (d := 116) (.bool (R82 != 18)) (k := ?_)
              refine WL.op (d := 117) (.bool (R82 != 18)) (k := ?_)
              refine WL.op (d := 118) (.bool (R82 != 18)) (k := ?_)
              refine WL.nil ?_
              refine WX.seqN ?_
              refine WC.cond (b := R82 != 18) (ht := fun h142 => ?_) (hf := fun h142 => ?_)
              · have ph142 := bne_iff_ne.1 h142
                refine WC.seq ?_
                refine WC.region ?_
                refine WL.op (d := 4) (.bool false) (k := ?_)
                refine WL.nil ?_
                refine WX.seqN ?_
                refine WC.ret ?_
                refine WX.seqR ?_
                refine WX.blockR ?_
                refine WX.seqR ?_
                refine WX.seqR ?_
                refine WX.blockR ?_
                refine WX.seqR ?_
                refine WX.ret (rs := [.tmp 4]) [.bool false] (.bool false) ⟨(by kernel_rfl), trivial⟩ (k := ?_)
                exfalso; rcases ht111 with ⟨q1_, q2_, q3_⟩ | ⟨q1_, ⟨q2_, q3_⟩ | ⟨q2_, q3_⟩⟩ <;> simp_all
              · have ph142 := of_bne_false h142
                refine WC.skip ?_
                refine WX.seqN ?_
                refine WC.seq ?_
                refine WC.seq ?_
                refine WC.region ?_
                refine WL.op (d := 119) (.bool (decide (¬ E106 = 0))) (k := ?_)
                refine WL.op (d := 120) (.bool (decide (¬ E106 = 0))) (k := ?_)
                refine bsplit (decide (¬ E106 = 0)) (fun h143 => ?_) (fun h143 => ?_)
                · have ph143 := of_decide_eq_true h143
                  refine WL.rw (t := 120) (v := .bool true) (congrArg Value.bool h143) (k := ?_)
                  refine WL.op (d := 121) (.pointer (some ⟨b119, 1, none⟩)) (k := ?_)
                  refine WL.load (v := .string ⟨(T107).toArray⟩) (ld1 (T := 9) (i := 1) hb130) (k := ?_)
                  refine WL.op (d := 123) (.string ⟨(List.take (43 * m) r20.t).toArray⟩) (k := ?_)
                  refine WL.opE (d := 124) (.bool (ByteArray.toList ⟨(T107).toArray⟩ == ByteArray.toList ⟨(List.take (43 * m) r20.t).toArray⟩)) (v := .bool (decide (T107 = List.take (43 * m) r20.t))) (str_eql _ _) (k := ?_)
                  refine WL.op (d := 125) (.bool (decide (T107 = List.take (43 * m) r20.t))) (k := ?_)
                  refine WL.op (d := 126) (.bool (!(decide (T107 = List.take (43 * m) r20.t)))) (k := ?_)
                  refine WL.op (d := 127) (.bool (!(decide (T107 = List.take (43 * m) r20.t)))) (k := ?_)
                  refine bsplit (!(decide (T107 = List.take (43 * m) r20.t))) (fun h144 => ?_) (fun h144 => ?_)
                  · have h145 : (decide (T107 = List.take (43 * m) r20.t)) = false := Bool.not_inj (y := false) h144
                    have ph145 := of_decide_eq_false h145
                    refine WL.rw (t := 127) (v := .bool true) (congrArg Value.bool h144) (k := ?_)
                    refine WL.op (d := 128) (.bool (decide (¬ E106 = 0))) (k := ?_)
                    refine WL.op (d := 129) (.bool (decide (¬ E = 0))) (k := ?_)
                    refine WL.op (d := 130) (.bool ((decide (¬ E106 = 0)) == (decide (¬ E = 0)))) (k := ?_)
                    refine WL.op (d := 131) (.bool ((decide (¬ E106 = 0)) == (decide (¬ E = 0)))) (k := ?_)
                    refine bsplit ((decide (¬ E106 = 0)) == (decide (¬ E = 0))) (fun h146 => ?_) (fun h146 => ?_)
                    · have ph146 := eq_of_beq h146
                      refine WL.rw (t := 131) (v := .bool true) (congrArg Value.bool h146) (k := ?_)
                      refine WL.op (d := 132) (.pointer (some ⟨b119, 1, none⟩)) (k := ?_)
                      refine WL.load (v := .string ⟨(T107).toArray⟩) (ld1 (T := 9) (i := 1) hb130) (k := ?_)
                      refine WL.op (d := 134) (.string ⟨(T).toArray⟩) (k := ?_)
                      refine WL.opE (d := 135) (.bool (ByteArray.toList ⟨(T107).toArray⟩ == ByteArray.toList ⟨(T).toArray⟩)) (v := .bool (decide (T107 = T))) (str_eql _ _) (k := ?_)
                      refine WL.op (d := 136) (.bool (decide (T107 = T))) (k := ?_)
                      refine WL.op (d := 137) (.bool (!(decide (T107 = T)))) (k := ?_)
                      refine WL.op (d := 138) (.bool (!(decide (T107 = T)))) (k := ?_)
                      refine WL.nil ?_
                      refine WX.seqN ?_
                      refine WC.cond (b := !(decide (T107 = T))) (ht := fun h147 => ?_) (hf := fun h147 => ?_)
                      · have h148 : (decide (T107 = T)) = false := Bool.not_inj (y := false) h147
                        have ph148 := of_decide_eq_false h148
                        refine WC.seq ?_
                        refine WC.region ?_
                        refine WL.op (d := 4) (.bool false) (k := ?_)
                        refine WL.nil ?_
                        refine WX.seqN ?_
                        refine WC.ret ?_
                        refine WX.seqR ?_
                        refine WX.blockR ?_
                        refine WX.seqR ?_
                        refine WX.seqR ?_
                        refine WX.blockR ?_
                        refine WX.seqR ?_
                        refine WX.ret (rs := [.tmp 4]) [.bool false] (.bool false) ⟨(by kernel_rfl), trivial⟩ (k := ?_)
                        exfalso; rcases ht111 with ⟨q1_, q2_, q3_⟩ | ⟨q1_, ⟨q2_, q3_⟩ | ⟨q2_, q3_⟩⟩ <;> simp_all
                      · have h149 : (decide (T107 = T)) = true := Bool.not_inj (y := true) h147
                        have ph149 := of_decide_eq_true h149
                        refine WC.skip ?_
                        refine WX.seqN ?_
                        refine WC.seq ?_
                        refine WC.region ?_
                        refine WL.op (d := 139) (.pointer (some ⟨b119, 1, none⟩)) (k := ?_)
                        refine WL.load (v := .string ⟨(T107).toArray⟩) (ld1 (T := 9) (i := 1) hb130) (k := ?_)
                        refine WL.op (d := 8) (.string ⟨(T107).toArray⟩) (k := ?_)
                        refine WL.nil ?_
                        refine WX.seqN ?_
                        refine WC.region ?_
                        refine WL.op (d := 141) (.bool (decide (¬ E106 = 0))) (k := ?_)
                        refine WL.op (d := 9) (.bool (decide (¬ E106 = 0))) (k := ?_)
                        refine WL.nil ?_
                        refine WX.blockN ?_
                        refine WX.seqN ?_
                        refine WC.region ?_
                        refine WL.op (d := 39) (.int .i64 (j : Int)) (k := ?_)
                        refine WL.opE (d := 40) (.int .i64 (IntKind.i64.wrap ((j : Int) + 1))) (v := .int .i64 ((j : Int) + 1)) (congrArg (Value.int .i64) (IntWalk.i64_in _ (by omega))) (k := ?_)
                        refine WL.op (d := 10) (.int .i64 ((j : Int) + 1)) (k := ?_)
                        refine WL.nil ?_
                        refine WX.rw (t := 10) (v := .int .i64 ((j + 1 : Nat) : Int)) ((show Value.int .i64 ((j : Int) + 1) = Value.int .i64 ((j + 1 : Nat) : Int) from congrArg (Value.int .i64) (by omega))) (k := ?_)
                        refine WX.round (j + 1, E106, T107, L108, sc105, rd113, S97) (by show (10 - (j + 1)) < (10 - j); omega) ⟨(by kernel_rfl), (by kernel_rfl), (by kernel_rfl), (by kernel_rfl), (by kernel_rfl), (by kernel_rfl), (by kernel_rfl), (by kernel_rfl), (by kernel_rfl), (by kernel_rfl), (by kernel_rfl), (by kernel_rfl), (by kernel_rfl), (by kernel_rfl), (by kernel_rfl), (by kernel_rfl), (by kernel_rfl), trivial⟩ ⟨K, hd116, lk104, (by omega), lay110⟩
                    · have ph146 := ne_of_beq_false h146
                      refine WL.rw (t := 131) (v := .bool false) (congrArg Value.bool h146) (k := ?_)
                      refine WL.skip (d := 132) (k := ?_)
                      refine WL.skip (d := 133) (k := ?_)
                      refine WL.skip (d := 134) (k := ?_)
                      refine WL.skip (d := 135) (k := ?_)
                      refine WL.op (d := 136) (.bool false) (k := ?_)
                      refine WL.op (d := 137) (.bool true) (k := ?_)
                      refine WL.op (d := 138) (.bool true) (k := ?_)
                      refine WL.nil ?_
                      refine WX.seqN ?_
                      refine WC.condT (k := ?_)
                      refine WC.seq ?_
                      refine WC.region ?_
                      refine WL.op (d := 4) (.bool false) (k := ?_)
                      refine WL.nil ?_
                      refine WX.seqN ?_
                      refine WC.ret ?_
                      refine WX.seqR ?_
                      refine WX.blockR ?_
                      refine WX.seqR ?_
                      refine WX.seqR ?_
                      refine WX.blockR ?_
                      refine WX.seqR ?_
                      refine WX.ret (rs := [.tmp 4]) [.bool false] (.bool false) ⟨(by kernel_rfl), trivial⟩ (k := ?_)
                      exfalso; rcases ht111 with ⟨q1_, q2_, q3_⟩ | ⟨q1_, ⟨q2_, q3_⟩ | ⟨q2_, q3_⟩⟩ <;> simp_all
                  · have h150 : (decide (T107 = List.take (43 * m) r20.t)) = true := Bool.not_inj (y := true) h144
                    have ph150 := of_decide_eq_true h150
                    refine WL.rw (t := 127) (v := .bool false) (congrArg Value.bool h144) (k := ?_)
                    refine WL.skip (d := 128) (k := ?_)
                    refine WL.skip (d := 129) (k := ?_)
                    refine WL.skip (d := 130) (k := ?_)
                    refine WL.skip (d := 131) (k := ?_)
                    refine WL.skip (d := 132) (k := ?_)
                    refine WL.skip (d := 133) (k := ?_)
                    refine WL.skip (d := 134) (k := ?_)
                    refine WL.skip (d := 135) (k := ?_)
                    refine WL.skip (d := 136) (k := ?_)
                    refine WL.skip (d := 137) (k := ?_)
                    refine WL.op (d := 138) (.bool false) (k := ?_)
                    refine WL.nil ?_
                    refine WX.seqN ?_
                    refine WC.condF (k := ?_)
                    refine WC.skip ?_
                    refine WX.seqN ?_
                    refine WC.seq ?_
                    refine WC.region ?_
                    refine WL.op (d := 139) (.pointer (some ⟨b119, 1, none⟩)) (k := ?_)
                    refine WL.load (v := .string ⟨(T107).toArray⟩) (ld1 (T := 9) (i := 1) hb130) (k := ?_)
                    refine WL.op (d := 8) (.string ⟨(T107).toArray⟩) (k := ?_)
                    refine WL.nil ?_
                    refine WX.seqN ?_
                    refine WC.region ?_
                    refine WL.op (d := 141) (.bool (decide (¬ E106 = 0))) (k := ?_)
                    refine WL.op (d := 9) (.bool (decide (¬ E106 = 0))) (k := ?_)
                    refine WL.nil ?_
                    refine WX.blockN ?_
                    refine WX.seqN ?_
                    refine WC.region ?_
                    refine WL.op (d := 39) (.int .i64 (j : Int)) (k := ?_)
                    refine WL.opE (d := 40) (.int .i64 (IntKind.i64.wrap ((j : Int) + 1))) (v := .int .i64 ((j : Int) + 1)) (congrArg (Value.int .i64) (IntWalk.i64_in _ (by omega))) (k := ?_)
                    refine WL.op (d := 10) (.int .i64 ((j : Int) + 1)) (k := ?_)
                    refine WL.nil ?_
                    refine WX.rw (t := 10) (v := .int .i64 ((j + 1 : Nat) : Int)) ((show Value.int .i64 ((j : Int) + 1) = Value.int .i64 ((j + 1 : Nat) : Int) from congrArg (Value.int .i64) (by omega))) (k := ?_)
                    refine WX.round (j + 1, E106, T107, L108, sc105, rd113, S97) (by show (10 - (j + 1)) < (10 - j); omega) ⟨(by kernel_rfl), (by kernel_rfl), (by kernel_rfl), (by kernel_rfl), (by kernel_rfl), (by kernel_rfl), (by kernel_rfl), (by kernel_rfl), (by kernel_rfl), (by kernel_rfl), (by kernel_rfl), (by kernel_rfl), (by kernel_rfl), (by kernel_rfl), (by kernel_rfl), (by kernel_rfl), (by kernel_rfl), trivial⟩ ⟨K, hd116, lk104, (by omega), lay110⟩
                · have ph143 := of_decide_eq_false h143
                  refine WL.rw (t := 120) (v := .bool false) (congrArg Value.bool h143) (k := ?_)
                  refine WL.skip (d := 121) (k := ?_)
                  refine WL.skip (d := 122) (k := ?_)
                  refine WL.skip (d := 123) (k := ?_)
                  refine WL.skip (d := 124) (k := ?_)
                  refine WL.op (d := 125) (.bool false) (k := ?_)
                  refine WL.op (d := 126) (.bool true) (k := ?_)
                  refine WL.op (d := 127) (.bool true) (k := ?_)
                  refine WL.op (d := 128) (.bool (decide (¬ E106 = 0))) (k := ?_)
                  refine WL.op (d := 129) (.bool (decide (¬ E = 0))) (k := ?_)
                  refine WL.op (d := 130) (.bool ((decide (¬ E106 = 0)) == (decide (¬ E = 0)))) (k := ?_)
                  refine WL.op (d := 131) (.bool ((decide (¬ E106 = 0)) == (decide (¬ E = 0)))) (k := ?_)
                  refine bsplit ((decide (¬ E106 = 0)) == (decide (¬ E = 0))) (fun h151 => ?_) (fun h151 => ?_)
                  · have ph151 := eq_of_beq h151
                    refine WL.rw (t := 131) (v := .bool true) (congrArg Value.bool h151) (k := ?_)
                    refine WL.op (d := 132) (.pointer (some ⟨b119, 1, none⟩)) (k := ?_)
                    refine WL.load (v := .string ⟨(T107).toArray⟩) (ld1 (T := 9) (i := 1) hb130) (k := ?_)
                    refine WL.op (d := 134) (.string ⟨(T).toArray⟩) (k := ?_)
                    refine WL.opE (d := 135) (.bool (ByteArray.toList ⟨(T107).toArray⟩ == ByteArray.toList ⟨(T).toArray⟩)) (v := .bool (decide (T107 = T))) (str_eql _ _) (k := ?_)
                    refine WL.op (d := 136) (.bool (decide (T107 = T))) (k := ?_)
                    refine WL.op (d := 137) (.bool (!(decide (T107 = T)))) (k := ?_)
                    refine WL.op (d := 138) (.bool (!(decide (T107 = T)))) (k := ?_)
                    refine WL.nil ?_
                    refine WX.seqN ?_
                    refine WC.cond (b := !(decide (T107 = T))) (ht := fun h152 => ?_) (hf := fun h152 => ?_)
                    · have h153 : (decide (T107 = T)) = false := Bool.not_inj (y := false) h152
                      have ph153 := of_decide_eq_false h153
                      refine WC.seq ?_
                      refine WC.region ?_
                      refine WL.op (d := 4) (.bool false) (k := ?_)
                      refine WL.nil ?_
                      refine WX.seqN ?_
                      refine WC.ret ?_
                      refine WX.seqR ?_
                      refine WX.blockR ?_
                      refine WX.seqR ?_
                      refine WX.seqR ?_
                      refine WX.blockR ?_
                      refine WX.seqR ?_
                      refine WX.ret (rs := [.tmp 4]) [.bool false] (.bool false) ⟨(by kernel_rfl), trivial⟩ (k := ?_)
                      exfalso; rcases ht111 with ⟨q1_, q2_, q3_⟩ | ⟨q1_, ⟨q2_, q3_⟩ | ⟨q2_, q3_⟩⟩ <;> simp_all
                    · have h154 : (decide (T107 = T)) = true := Bool.not_inj (y := true) h152
                      have ph154 := of_decide_eq_true h154
                      refine WC.skip ?_
                      refine WX.seqN ?_
                      refine WC.seq ?_
                      refine WC.region ?_
                      refine WL.op (d := 139) (.pointer (some ⟨b119, 1, none⟩)) (k := ?_)
                      refine WL.load (v := .string ⟨(T107).toArray⟩) (ld1 (T := 9) (i := 1) hb130) (k := ?_)
                      refine WL.op (d := 8) (.string ⟨(T107).toArray⟩) (k := ?_)
                      refine WL.nil ?_
                      refine WX.seqN ?_
                      refine WC.region ?_
                      refine WL.op (d := 141) (.bool (decide (¬ E106 = 0))) (k := ?_)
                      refine WL.op (d := 9) (.bool (decide (¬ E106 = 0))) (k := ?_)
                      refine WL.nil ?_
                      refine WX.blockN ?_
                      refine WX.seqN ?_
                      refine WC.region ?_
                      refine WL.op (d := 39) (.int .i64 (j : Int)) (k := ?_)
                      refine WL.opE (d := 40) (.int .i64 (IntKind.i64.wrap ((j : Int) + 1))) (v := .int .i64 ((j : Int) + 1)) (congrArg (Value.int .i64) (IntWalk.i64_in _ (by omega))) (k := ?_)
                      refine WL.op (d := 10) (.int .i64 ((j : Int) + 1)) (k := ?_)
                      refine WL.nil ?_
                      refine WX.rw (t := 10) (v := .int .i64 ((j + 1 : Nat) : Int)) ((show Value.int .i64 ((j : Int) + 1) = Value.int .i64 ((j + 1 : Nat) : Int) from congrArg (Value.int .i64) (by omega))) (k := ?_)
                      refine WX.round (j + 1, E106, T107, L108, sc105, rd113, S97) (by show (10 - (j + 1)) < (10 - j); omega) ⟨(by kernel_rfl), (by kernel_rfl), (by kernel_rfl), (by kernel_rfl), (by kernel_rfl), (by kernel_rfl), (by kernel_rfl), (by kernel_rfl), (by kernel_rfl), (by kernel_rfl), (by kernel_rfl), (by kernel_rfl), (by kernel_rfl), (by kernel_rfl), (by kernel_rfl), (by kernel_rfl), (by kernel_rfl), trivial⟩ ⟨K, hd116, lk104, (by omega), lay110⟩
                  · have ph151 := ne_of_beq_false h151
                    refine WL.rw (t := 131) (v := .bool false) (congrArg Value.bool h151) (k := ?_)
                    refine WL.skip (d := 132) (k := ?_)
                    refine WL.skip (d := 133) (k := ?_)
                    refine WL.skip (d := 134) (k := ?_)
                    refine WL.skip (d := 135) (k := ?_)
                    refine WL.op (d := 136) (.bool false) (k := ?_)
                    refine WL.op (d := 137) (.bool true) (k := ?_)
                    refine WL.op (d := 138) (.bool true) (k := ?_)
                    refine WL.nil ?_
                    refine WX.seqN ?_
                    refine WC.condT (k := ?_)
                    refine WC.seq ?_
                    refine WC.region ?_
                    refine WL.op (d := 4) (.bool false) (k := ?_)
                    refine WL.nil ?_
                    refine WX.seqN ?_
                    refine WC.ret ?_
                    refine WX.seqR ?_
                    refine WX.blockR ?_
                    refine WX.seqR ?_
                    refine WX.seqR ?_
                    refine WX.blockR ?_
                    refine WX.seqR ?_
                    refine WX.ret (rs := [.tmp 4]) [.bool false] (.bool false) ⟨(by kernel_rfl), trivial⟩ (k := ?_)
                    exfalso; rcases ht111 with ⟨q1_, q2_, q3_⟩ | ⟨q1_, ⟨q2_, q3_⟩ | ⟨q2_, q3_⟩⟩ <;> simp_all
            · have ph141 := of_bne_false h141
              refine WL.rw (t := 114) (v := .bool false) (congrArg Value.bool h141) (k := ?_)
              refine WL.skip (d := 115) (k := ?_)
              refine WL.skip (d := 116) (k := ?_)
              refine WL.op (d := 117) (.bool false) (k := ?_)
              refine WL.op (d := 118) (.bool false) (k := ?_)
              refine WL.nil ?_
              refine WX.seqN ?_
              refine WC.condF (k := ?_)
              refine WC.skip ?_
              refine WX.seqN ?_
              refine WC.seq ?_
              refine WC.seq ?_
              refine WC.region ?_
              refine WL.op (d := 119) (.bool (decide (¬ E106 = 0))) (k := ?_)
              refine WL.op (d := 120) (.bool (decide (¬ E106 = 0))) (k := ?_)
              refine bsplit (decide (¬ E106 = 0)) (fun h155 => ?_) (fun h155 => ?_)
              · have ph155 := of_decide_eq_true h155
                refine WL.rw (t := 120) (v := .bool true) (congrArg Value.bool h155) (k := ?_)
                refine WL.op (d := 121) (.pointer (some ⟨b119, 1, none⟩)) (k := ?_)
                refine WL.load (v := .string ⟨(T107).toArray⟩) (ld1 (T := 9) (i := 1) hb130) (k := ?_)
                refine WL.op (d := 123) (.string ⟨(List.take (43 * m) r20.t).toArray⟩) (k := ?_)
                refine WL.opE (d := 124) (.bool (ByteArray.toList ⟨(T107).toArray⟩ == ByteArray.toList ⟨(List.take (43 * m) r20.t).toArray⟩)) (v := .bool (decide (T107 = List.take (43 * m) r20.t))) (str_eql _ _) (k := ?_)
                refine WL.op (d := 125) (.bool (decide (T107 = List.take (43 * m) r20.t))) (k := ?_)
                refine WL.op (d := 126) (.bool (!(decide (T107 = List.take (43 * m) r20.t)))) (k := ?_)
                refine WL.op (d := 127) (.bool (!(decide (T107 = List.take (43 * m) r20.t)))) (k := ?_)
                refine bsplit (!(decide (T107 = List.take (43 * m) r20.t))) (fun h156 => ?_) (fun h156 => ?_)
                · have h157 : (decide (T107 = List.take (43 * m) r20.t)) = false := Bool.not_inj (y := false) h156
                  have ph157 := of_decide_eq_false h157
                  refine WL.rw (t := 127) (v := .bool true) (congrArg Value.bool h156) (k := ?_)
                  refine WL.op (d := 128) (.bool (decide (¬ E106 = 0))) (k := ?_)
                  refine WL.op (d := 129) (.bool (decide (¬ E = 0))) (k := ?_)
                  refine WL.op (d := 130) (.bool ((decide (¬ E106 = 0)) == (decide (¬ E = 0)))) (k := ?_)
                  refine WL.op (d := 131) (.bool ((decide (¬ E106 = 0)) == (decide (¬ E = 0)))) (k := ?_)
                  refine bsplit ((decide (¬ E106 = 0)) == (decide (¬ E = 0))) (fun h158 => ?_) (fun h158 => ?_)
                  · have ph158 := eq_of_beq h158
                    refine WL.rw (t := 131) (v := .bool true) (congrArg Value.bool h158) (k := ?_)
                    refine WL.op (d := 132) (.pointer (some ⟨b119, 1, none⟩)) (k := ?_)
                    refine WL.load (v := .string ⟨(T107).toArray⟩) (ld1 (T := 9) (i := 1) hb130) (k := ?_)
                    refine WL.op (d := 134) (.string ⟨(T).toArray⟩) (k := ?_)
                    refine WL.opE (d := 135) (.bool (ByteArray.toList ⟨(T107).toArray⟩ == ByteArray.toList ⟨(T).toArray⟩)) (v := .bool (decide (T107 = T))) (str_eql _ _) (k := ?_)
                    refine WL.op (d := 136) (.bool (decide (T107 = T))) (k := ?_)
                    refine WL.op (d := 137) (.bool (!(decide (T107 = T)))) (k := ?_)
                    refine WL.op (d := 138) (.bool (!(decide (T107 = T)))) (k := ?_)
                    refine WL.nil ?_
                    refine WX.seqN ?_
                    refine WC.cond (b := !(decide (T107 = T))) (ht := fun h159 => ?_) (hf := fun h159 => ?_)
                    · have h160 : (decide (T107 = T)) = false := Bool.not_inj (y := false) h159
                      have ph160 := of_decide_eq_false h160
                      refine WC.seq ?_
                      refine WC.region ?_
                      refine WL.op (d := 4) (.bool false) (k := ?_)
                      refine WL.nil ?_
                      refine WX.seqN ?_
                      refine WC.ret ?_
                      refine WX.seqR ?_
                      refine WX.blockR ?_
                      refine WX.seqR ?_
                      refine WX.seqR ?_
                      refine WX.blockR ?_
                      refine WX.seqR ?_
                      refine WX.ret (rs := [.tmp 4]) [.bool false] (.bool false) ⟨(by kernel_rfl), trivial⟩ (k := ?_)
                      exfalso; rcases ht111 with ⟨q1_, q2_, q3_⟩ | ⟨q1_, ⟨q2_, q3_⟩ | ⟨q2_, q3_⟩⟩ <;> simp_all
                    · have h161 : (decide (T107 = T)) = true := Bool.not_inj (y := true) h159
                      have ph161 := of_decide_eq_true h161
                      refine WC.skip ?_
                      refine WX.seqN ?_
                      refine WC.seq ?_
                      refine WC.region ?_
                      refine WL.op (d := 139) (.pointer (some ⟨b119, 1, none⟩)) (k := ?_)
                      refine WL.load (v := .string ⟨(T107).toArray⟩) (ld1 (T := 9) (i := 1) hb130) (k := ?_)
                      refine WL.op (d := 8) (.string ⟨(T107).toArray⟩) (k := ?_)
                      refine WL.nil ?_
                      refine WX.seqN ?_
                      refine WC.region ?_
                      refine WL.op (d := 141) (.bool (decide (¬ E106 = 0))) (k := ?_)
                      refine WL.op (d := 9) (.bool (decide (¬ E106 = 0))) (k := ?_)
                      refine WL.nil ?_
                      refine WX.blockN ?_
                      refine WX.seqN ?_
                      refine WC.region ?_
                      refine WL.op (d := 39) (.int .i64 (j : Int)) (k := ?_)
                      refine WL.opE (d := 40) (.int .i64 (IntKind.i64.wrap ((j : Int) + 1))) (v := .int .i64 ((j : Int) + 1)) (congrArg (Value.int .i64) (IntWalk.i64_in _ (by omega))) (k := ?_)
                      refine WL.op (d := 10) (.int .i64 ((j : Int) + 1)) (k := ?_)
                      refine WL.nil ?_
                      refine WX.rw (t := 10) (v := .int .i64 ((j + 1 : Nat) : Int)) ((show Value.int .i64 ((j : Int) + 1) = Value.int .i64 ((j + 1 : Nat) : Int) from congrArg (Value.int .i64) (by omega))) (k := ?_)
                      refine WX.round (j + 1, E106, T107, L108, sc105, rd113, S97) (by show (10 - (j + 1)) < (10 - j); omega) ⟨(by kernel_rfl), (by kernel_rfl), (by kernel_rfl), (by kernel_rfl), (by kernel_rfl), (by kernel_rfl), (by kernel_rfl), (by kernel_rfl), (by kernel_rfl), (by kernel_rfl), (by kernel_rfl), (by kernel_rfl), (by kernel_rfl), (by kernel_rfl), (by kernel_rfl), (by kernel_rfl), (by kernel_rfl), trivial⟩ ⟨K, hd116, lk104, (by omega), lay110⟩
                  · have ph158 := ne_of_beq_false h158
                    refine WL.rw (t := 131) (v := .bool false) (congrArg Value.bool h158) (k := ?_)
                    refine WL.skip (d := 132) (k := ?_)
                    refine WL.skip (d := 133) (k := ?_)
                    refine WL.skip (d := 134) (k := ?_)
                    refine WL.skip (d := 135) (k := ?_)
                    refine WL.op (d := 136) (.bool false) (k := ?_)
                    refine WL.op (d := 137) (.bool true) (k := ?_)
                    refine WL.op (d := 138) (.bool true) (k := ?_)
                    refine WL.nil ?_
                    refine WX.seqN ?_
                    refine WC.condT (k := ?_)
                    refine WC.seq ?_
                    refine WC.region ?_
                    refine WL.op (d := 4) (.bool false) (k := ?_)
                    refine WL.nil ?_
                    refine WX.seqN ?_
                    refine WC.ret ?_
                    refine WX.seqR ?_
                    refine WX.blockR ?_
                    refine WX.seqR ?_
                    refine WX.seqR ?_
                    refine WX.blockR ?_
                    refine WX.seqR ?_
                    refine WX.ret (rs := [.tmp 4]) [.bool false] (.bool false) ⟨(by kernel_rfl), trivial⟩ (k := ?_)
                    exfalso; rcases ht111 with ⟨q1_, q2_, q3_⟩ | ⟨q1_, ⟨q2_, q3_⟩ | ⟨q2_, q3_⟩⟩ <;> simp_all
                · have h162 : (decide (T107 = List.take (43 * m) r20.t)) = true := Bool.not_inj (y := true) h156
                  have ph162 := of_decide_eq_true h162
                  refine WL.rw (t := 127) (v := .bool false) (congrArg Value.bool h156) (k := ?_)
                  refine WL.skip (d := 128) (k := ?_)
                  refine WL.skip (d := 129) (k := ?_)
                  refine WL.skip (d := 130) (k := ?_)
                  refine WL.skip (d := 131) (k := ?_)
                  refine WL.skip (d := 132) (k := ?_)
                  refine WL.skip (d := 133) (k := ?_)
                  refine WL.skip (d := 134) (k := ?_)
                  refine WL.skip (d := 135) (k := ?_)
                  refine WL.skip (d := 136) (k := ?_)
                  refine WL.skip (d := 137) (k := ?_)
                  refine WL.op (d := 138) (.bool false) (k := ?_)
                  refine WL.nil ?_
                  refine WX.seqN ?_
                  refine WC.condF (k := ?_)
                  refine WC.skip ?_
                  refine WX.seqN ?_
                  refine WC.seq ?_
                  refine WC.region ?_
                  refine WL.op (d := 139) (.pointer (some ⟨b119, 1, none⟩)) (k := ?_)
                  refine WL.load (v := .string ⟨(T107).toArray⟩) (ld1 (T := 9) (i := 1) hb130) (k := ?_)
                  refine WL.op (d := 8) (.string ⟨(T107).toArray⟩) (k := ?_)
                  refine WL.nil ?_
                  refine WX.seqN ?_
                  refine WC.region ?_
                  refine WL.op (d := 141) (.bool (decide (¬ E106 = 0))) (k := ?_)
                  refine WL.op (d := 9) (.bool (decide (¬ E106 = 0))) (k := ?_)
                  refine WL.nil ?_
                  refine WX.blockN ?_
                  refine WX.seqN ?_
                  refine WC.region ?_
                  refine WL.op (d := 39) (.int .i64 (j : Int)) (k := ?_)
                  refine WL.opE (d := 40) (.int .i64 (IntKind.i64.wrap ((j : Int) + 1))) (v := .int .i64 ((j : Int) + 1)) (congrArg (Value.int .i64) (IntWalk.i64_in _ (by omega))) (k := ?_)
                  refine WL.op (d := 10) (.int .i64 ((j : Int) + 1)) (k := ?_)
                  refine WL.nil ?_
                  refine WX.rw (t := 10) (v := .int .i64 ((j + 1 : Nat) : Int)) ((show Value.int .i64 ((j : Int) + 1) = Value.int .i64 ((j + 1 : Nat) : Int) from congrArg (Value.int .i64) (by omega))) (k := ?_)
                  refine WX.round (j + 1, E106, T107, L108, sc105, rd113, S97) (by show (10 - (j + 1)) < (10 - j); omega) ⟨(by kernel_rfl), (by kernel_rfl), (by kernel_rfl), (by kernel_rfl), (by kernel_rfl), (by kernel_rfl), (by kernel_rfl), (by kernel_rfl), (by kernel_rfl), (by kernel_rfl), (by kernel_rfl), (by kernel_rfl), (by kernel_rfl), (by kernel_rfl), (by kernel_rfl), (by kernel_rfl), (by kernel_rfl), trivial⟩ ⟨K, hd116, lk104, (by omega), lay110⟩
              · have ph155 := of_decide_eq_false h155
                refine WL.rw (t := 120) (v := .bool false) (congrArg Value.bool h155) (k := ?_)
                refine WL.skip (d := 121) (k := ?_)
                refine WL.skip (d := 122) (k := ?_)
                refine WL.skip (d := 123) (k := ?_)
                refine WL.skip (d := 124) (k := ?_)
                refine WL.op (d := 125) (.bool false) (k := ?_)
                refine WL.op (d := 126) (.bool true) (k := ?_)
                refine WL.op (d := 127) (.bool true) (k := ?_)
                refine WL.op (d := 128) (.bool (decide (¬ E106 = 0))) (k := ?_)
                refine WL.op (d := 129) (.bool (decide (¬ E = 0))) (k := ?_)
                refine WL.op (d := 130) (.bool ((decide (¬ E106 = 0)) == (decide (¬ E = 0)))) (k := ?_)
                refine WL.op (d := 131) (.bool ((decide (¬ E106 = 0)) == (decide (¬ E = 0)))) (k := ?_)
                refine bsplit ((decide (¬ E106 = 0)) == (decide (¬ E = 0))) (fun h163 => ?_) (fun h163 => ?_)
                · have ph163 := eq_of_beq h163
                  refine WL.rw (t := 131) (v := .bool true) (congrArg Value.bool h163) (k := ?_)
                  refine WL.op (d := 132) (.pointer (some ⟨b119, 1, none⟩)) (k := ?_)
                  refine WL.load (v := .string ⟨(T107).toArray⟩) (ld1 (T := 9) (i := 1) hb130) (k := ?_)
                  refine WL.op (d := 134) (.string ⟨(T).toArray⟩) (k := ?_)
                  refine WL.opE (d := 135) (.bool (ByteArray.toList ⟨(T107).toArray⟩ == ByteArray.toList ⟨(T).toArray⟩)) (v := .bool (decide (T107 = T))) (str_eql _ _) (k := ?_)
                  refine WL.op (d := 136) (.bool (decide (T107 = T))) (k := ?_)
                  refine WL.op (d := 137) (.bool (!(decide (T107 = T)))) (k := ?_)
                  refine WL.op (d := 138) (.bool (!(decide (T107 = T)))) (k := ?_)
                  refine WL.nil ?_
                  refine WX.seqN ?_
                  refine WC.cond (b := !(decide (T107 = T))) (ht := fun h164 => ?_) (hf := fun h164 => ?_)
                  · have h165 : (decide (T107 = T)) = false := Bool.not_inj (y := false) h164
                    have ph165 := of_decide_eq_false h165
                    refine WC.seq ?_
                    refine WC.region ?_
                    refine WL.op (d := 4) (.bool false) (k := ?_)
                    refine WL.nil ?_
                    refine WX.seqN ?_
                    refine WC.ret ?_
                    refine WX.seqR ?_
                    refine WX.blockR ?_
                    refine WX.seqR ?_
                    refine WX.seqR ?_
                    refine WX.blockR ?_
                    refine WX.seqR ?_
                    refine WX.ret (rs := [.tmp 4]) [.bool false] (.bool false) ⟨(by kernel_rfl), trivial⟩ (k := ?_)
                    exfalso; rcases ht111 with ⟨q1_, q2_, q3_⟩ | ⟨q1_, ⟨q2_, q3_⟩ | ⟨q2_, q3_⟩⟩ <;> simp_all
                  · have h166 : (decide (T107 = T)) = true := Bool.not_inj (y := true) h164
                    have ph166 := of_decide_eq_true h166
                    refine WC.skip ?_
                    refine WX.seqN ?_
                    refine WC.seq ?_
                    refine WC.region ?_
                    refine WL.op (d := 139) (.pointer (some ⟨b119, 1, none⟩)) (k := ?_)
                    refine WL.load (v := .string ⟨(T107).toArray⟩) (ld1 (T := 9) (i := 1) hb130) (k := ?_)
                    refine WL.op (d := 8) (.string ⟨(T107).toArray⟩) (k := ?_)
                    refine WL.nil ?_
                    refine WX.seqN ?_
                    refine WC.region ?_
                    refine WL.op (d := 141) (.bool (decide (¬ E106 = 0))) (k := ?_)
                    refine WL.op (d := 9) (.bool (decide (¬ E106 = 0))) (k := ?_)
                    refine WL.nil ?_
                    refine WX.blockN ?_
                    refine WX.seqN ?_
                    refine WC.region ?_
                    refine WL.op (d := 39) (.int .i64 (j : Int)) (k := ?_)
                    refine WL.opE (d := 40) (.int .i64 (IntKind.i64.wrap ((j : Int) + 1))) (v := .int .i64 ((j : Int) + 1)) (congrArg (Value.int .i64) (IntWalk.i64_in _ (by omega))) (k := ?_)
                    refine WL.op (d := 10) (.int .i64 ((j : Int) + 1)) (k := ?_)
                    refine WL.nil ?_
                    refine WX.rw (t := 10) (v := .int .i64 ((j + 1 : Nat) : Int)) ((show Value.int .i64 ((j : Int) + 1) = Value.int .i64 ((j + 1 : Nat) : Int) from congrArg (Value.int .i64) (by omega))) (k := ?_)
                    refine WX.round (j + 1, E106, T107, L108, sc105, rd113, S97) (by show (10 - (j + 1)) < (10 - j); omega) ⟨(by kernel_rfl), (by kernel_rfl), (by kernel_rfl), (by kernel_rfl), (by kernel_rfl), (by kernel_rfl), (by kernel_rfl), (by kernel_rfl), (by kernel_rfl), (by kernel_rfl), (by kernel_rfl), (by kernel_rfl), (by kernel_rfl), (by kernel_rfl), (by kernel_rfl), (by kernel_rfl), (by kernel_rfl), trivial⟩ ⟨K, hd116, lk104, (by omega), lay110⟩
                · have ph163 := ne_of_beq_false h163
                  refine WL.rw (t := 131) (v := .bool false) (congrArg Value.bool h163) (k := ?_)
                  refine WL.skip (d := 132) (k := ?_)
                  refine WL.skip (d := 133) (k := ?_)
                  refine WL.skip (d := 134) (k := ?_)
                  refine WL.skip (d := 135) (k := ?_)
                  refine WL.op (d := 136) (.bool false) (k := ?_)
                  refine WL.op (d := 137) (.bool true) (k := ?_)
                  refine WL.op (d := 138) (.bool true) (k := ?_)
                  refine WL.nil ?_
                  refine WX.seqN ?_
                  refine WC.condT (k := ?_)
                  refine WC.seq ?_
                  refine WC.region ?_
                  refine WL.op (d := 4) (.bool false) (k := ?_)
                  refine WL.nil ?_
                  refine WX.seqN ?_
                  refine WC.ret ?_
                  refine WX.seqR ?_
                  refine WX.blockR ?_
                  refine WX.seqR ?_
                  refine WX.seqR ?_
                  refine WX.blockR ?_
                  refine WX.seqR ?_
                  refine WX.ret (rs := [.tmp 4]) [.bool false] (.bool false) ⟨(by kernel_rfl), trivial⟩ (k := ?_)
                  exfalso; rcases ht111 with ⟨q1_, q2_, q3_⟩ | ⟨q1_, ⟨q2_, q3_⟩ | ⟨q2_, q3_⟩⟩ <;> simp_all
    · have ph17 := of_decide_eq_false h17
      refine WC.exit ?_
      refine WX.seqE ?_
      refine WX.seqE ?_
      refine WX.blockE ?_
      refine WX.seqN ?_
      refine WC.seq ?_
      refine WC.region ?_
      refine WL.op (d := 142) (.bool true) (k := ?_)
      refine WL.op (d := 4) (.bool true) (k := ?_)
      refine WL.nil ?_
      refine WX.seqN ?_
      refine WC.ret ?_
      refine WX.ret (rs := [.tmp 4]) [.bool true] (.bool true) ⟨(by kernel_rfl), trivial⟩ (k := ?_)
      exact ⟨rfl, K⟩
  · have ph16 := of_decide_eq_false h16
    refine WL.rw (t := 35) (v := .bool false) (congrArg Value.bool h16) (k := ?_)
    refine WL.skip (d := 36) (k := ?_)
    refine WL.skip (d := 37) (k := ?_)
    refine WL.op (d := 38) (.bool false) (k := ?_)
    refine WL.nil ?_
    refine WX.seqN ?_
    refine WC.condF (k := ?_)
    refine WC.exit ?_
    refine WX.seqE ?_
    refine WX.seqE ?_
    refine WX.blockE ?_
    refine WX.seqN ?_
    refine WC.seq ?_
    refine WC.region ?_
    refine WL.op (d := 142) (.bool true) (k := ?_)
    refine WL.op (d := 4) (.bool true) (k := ?_)
    refine WL.nil ?_
    refine WX.seqN ?_
    refine WC.ret ?_
    refine WX.ret (rs := [.tmp 4]) [.bool true] (.bool true) ⟨(by kernel_rfl), trivial⟩ (k := ?_)
    exact ⟨rfl, K⟩

end Go.Proofs.YtdoenmokahbeaaaGreatDoor
