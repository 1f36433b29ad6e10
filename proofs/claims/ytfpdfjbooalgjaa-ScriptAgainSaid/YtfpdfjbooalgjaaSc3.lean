/- Commands: bytes. -/
import Derived.Test.YtfpdfjbooalgjaaSc2
namespace Go.Proofs.Ytfpdfjbooalgjaa
open Go.RowKit
set_option linter.unusedVariables false
set_option linter.unusedSimpArgs false

set_option maxRecDepth 100000 in
set_option maxHeartbeats 4000000 in
theorem sFates_c {A : Option Addr} {cp : Nat} {fs : List GFate} {b : Nat} {r : Option Nat} {bs : List UInt8} {w : World} (hw : BuR 64 0 b r bs w) (hA : SlAt fateC 2 50 A fs w) (hd : fs ≠ [] → ∀ p, A = some p → ¬ (p.block = b ∨ r = some p.block)) (hf : ∀ f ∈ fs, f.ok) (hl : fs.length ≤ 64) (hb : bs.length ≤ 100000000) : Calls Try.prog 45 #[.pointer (some ⟨b, 0, none⟩), .slice A fs.length cp] w fun e w' => e = .returned (.tuple #[]) ∧ WrPost 64 b r (bs ++ (encNum fs.length ++ fs.flatMap encFate)) w w' := by
  have K : Keeps (fun i => i = b ∨ r = some i) w w := Keeps.refl _ w
  have lz_ := encNum_len (Int.toNat (fs.length : Int)) (by omega)
  have lk0 : WLink w r r := .inl rfl
  refine Calls.start Try.func45 rfl (by kernel_rfl) ?_
  refine WC.seq ?_
  refine WC.region ?_
  refine WL.op (d := 6) (.pointer (some ⟨b, 0, none⟩)) (k := ?_)
  refine WL.op (d := 7) (.slice A fs.length cp) (k := ?_)
  refine WL.op (d := 8) (.int .i64 (fs.length : Int)) (k := ?_)
  refine WL.callG (d := 9) (f := 41) (args := #[.pointer (some ⟨b, 0, none⟩), .int .i64 (fs.length : Int)]) (wInt_r _ _ _ (fs.length : Int) (by omega) _ hw (by (try simp only [List.length_append] at *); omega)) (k := fun e_ w1 h_ => ?_)
  obtain ⟨rfl, r2, hw3, n4, k5⟩ := h_
  refine ⟨_, rfl, ?_⟩
  have lk6 := lk0.step K n4
  replace K := K.trans' k5 (WLink.par lk0)
  clear hw n4 lk0
  refine WL.nil ?_
  refine WX.seqN ?_
  refine WC.seq ?_
  refine WC.region ?_
  refine WL.op (d := 10) (.slice A fs.length cp) (k := ?_)
  refine WL.op (d := 11) (.int .i64 (fs.length : Int)) (k := ?_)
  refine WL.op (d := 12) (.int .i64 0) (k := ?_)
  refine WL.nil ?_
  refine WX.seqN ?_
  refine WC.block ?_
  rw [show bs ++ encNum (Int.toNat (fs.length : Int)) = bs ++ encNum (Int.toNat (fs.length : Int)) ++ fsU fs 0 from by rw [fsU_zero]; simp] at hw3
  refine WC.loop (ι := Int × (Option Nat)) (fun (⟨i, ro⟩ : Int × (Option Nat)) => [(0, .pointer (some ⟨b, 0, none⟩)), (1, .slice A fs.length cp), (6, .pointer (some ⟨b, 0, none⟩)), (7, .slice A fs.length cp), (8, .int .i64 (fs.length : Int)), (10, .slice A fs.length cp), (11, .int .i64 (fs.length : Int)), (12, .int .i64 i)]) (fun (⟨i, ro⟩ : Int × (Option Nat)) (w_ : World) => (Keeps (fun i => i = b ∨ r = some i) w w_) ∧ (BuR 64 0 b ro (bs ++ encNum (Int.toNat (fs.length : Int)) ++ fsU fs i) w_) ∧ (WLink w r ro) ∧ (0 ≤ i) ∧ (i ≤ fs.length)) (fun (⟨i, ro⟩ : Int × (Option Nat)) => (fs.length - i).toNat) (0, r2) ⟨(by kernel_rfl), (by kernel_rfl), (by kernel_rfl), (by kernel_rfl), (by kernel_rfl), (by kernel_rfl), (by kernel_rfl), (by kernel_rfl), trivial⟩ ⟨K, hw3, lk6, Int.le_refl 0, (by omega)⟩ ?_
  rintro ⟨i, ro⟩ w7 ⟨K, hb8, lk9, i0, i1⟩
  have lu_ := fsU_len hf i
  refine WC.seq ?_
  refine WC.region ?_
  refine WL.op (d := 13) (.bool (decide (i < (fs.length : Int)))) (k := ?_)
  refine WL.nil ?_
  refine WX.seqN ?_
  refine WC.seq ?_
  refine WC.cond (b := decide (i < (fs.length : Int))) (ht := fun h10 => ?_) (hf := fun h10 => ?_)
  · have ph10 := of_decide_eq_true h10
    refine WC.skip ?_
    refine WX.seqN ?_
    refine WC.seq ?_
    refine WC.block ?_
    refine WC.seq ?_
    refine WC.region ?_
    obtain ⟨b11, o12, r13, hr14, hA15, he16⟩ := SlAt.at hA (i := i) (by omega) (by omega)
    refine WL.rw (t := 10) (v := .slice (some ⟨b11, o12, none⟩) fs.length cp) (congrArg (fun a => Value.slice a fs.length cp) hA15) (k := ?_)
    obtain ⟨_, _, _, _⟩ := hf _ (List.mem_of_getElem? hr14)
    have ln17 := encNum_len (Int.toNat r13.kind) (by omega)
    have ln18 := encNum_len (Int.toNat r13.at_) (by omega)
    refine WL.idx (T := 30) (E := 50) (m := 2) (b := b11) (o := o12) (len := fs.length) (cap := cp) (i := i) (kk := .i64) (d := 14) (by omega) (by omega) (k := ?_)
    refine WL.rw (t := 10) (v := .slice A fs.length cp) (congrArg (fun a => Value.slice a fs.length cp) (Eq.symm hA15)) (k := ?_)
    refine WL.load (v := GFate.val r13) ((he16.keeps K (hd (ne_get hr14) _ hA15)).ldW (T := 50)) (k := ?_)
    refine WL.new (d := 5) (T := 50) #[.int .i64 0, .int .i64 0] (k := fun b19 w20 g21 hb22 k23 => ?_)
    have z24 := Nat.le_trans K.size g21
    have n25 : b ≠ b19 := Nat.ne_of_lt (Nat.lt_of_lt_of_le hb8.ltb g21)
    replace hb8 := hb8.movA k23
    replace K := K.trans (k23.any _)
    refine WL.store (v := GFate.val r13) (i := 0) (cs' := (Value.cells (GFate.val r13))) hb22 (k := fun w26 hb27 k28 => ?_)
    replace hb8 := hb8.mov1 k28 n25 (hb8.offT hb22 (by decide))
    replace K := K.trans' k28 (fun i hi e => absurd (e ▸ hi) (Nat.not_lt.2 z24))
    clear hb22
    refine WL.nil ?_
    refine WX.seqN ?_
    refine WC.mixed (fun k => k = b ∨ ro = some k) 7 (k := fun w29 k30 => ?_)
    replace hb8 := hb8.movA k30
    replace hb27 := k30.heap hb27 id
    replace K := K.trans (k30.any _)
    have KC := Keeps.refl (fun k => k = b ∨ ro = some k) w29
    have KCl : WLink w29 ro ro := .inl rfl
    have bh31 := hb27
    have Kb := K
    refine WA.quiet2 0 (d := 16) (.pointer (some ⟨b, 0, none⟩)) KC (hi := rfl) (k := ?_)
    refine WA.quiet2 1 (d := 17) (.pointer (some ⟨b19, 0, none⟩)) KC (hi := rfl) (k := ?_)
    refine WA.quietR2 2 (d := 18) (.int .i64 r13.kind) KC (exec_load (fun w_ k_ => ld1 (T := 3) (i := 0) (k_.heap bh31 (not_or.2 ⟨Ne.symm n25, hb8.offT hb27 (by decide)⟩)))) (hi := rfl) (k := ?_)
    refine WA.quiet2 4 (d := 20) (.pointer (some ⟨b19, 1, none⟩)) KC (hi := rfl) (k := ?_)
    refine WA.quietR2 5 (d := 21) (.int .i64 r13.at_) KC (exec_load (fun w_ k_ => ld1 (T := 3) (i := 1) (k_.heap bh31 (not_or.2 ⟨Ne.symm n25, hb8.offT hb27 (by decide)⟩)))) (hi := rfl) (k := ?_)
    refine WA.step 3 (hi := rfl) (k := ?_)
    refine WL.callG (d := 19) (f := 41) (args := #[.pointer (some ⟨b, 0, none⟩), .int .i64 r13.kind]) (wInt_r _ _ _ r13.kind (by omega) _ hb8 (by (try simp only [List.length_append] at *); omega)) (k := fun e_ w32 h_ => ?_)
    obtain ⟨rfl, r33, hw34, n35, k36⟩ := h_
    refine ⟨_, rfl, ?_⟩
    have lk37 := lk9.step K n35
    have KCm := KCl.step KC n35
    replace hb27 := k36.heap hb27 (not_or.2 ⟨Ne.symm n25, hb8.offT hb27 (by decide)⟩)
    replace K := K.trans' k36 (WLink.par lk9)
    replace KC := KC.trans' k36 (fun i hi e => e)
    replace KCl := KCm
    clear hb8 n35 lk9
    refine WL.nil ?_
    refine WX.nxt KC ?_
    refine WA.step 6 (hi := rfl) (k := ?_)
    refine WL.callG (d := 22) (f := 41) (args := #[.pointer (some ⟨b, 0, none⟩), .int .i64 r13.at_]) (wInt_r _ _ _ r13.at_ (by omega) _ hw34 (by (try simp only [List.length_append] at *); omega)) (k := fun e_ w38 h_ => ?_)
    obtain ⟨rfl, r39, hw40, n41, k42⟩ := h_
    refine ⟨_, rfl, ?_⟩
    have lk43 := lk37.step K n41
    have KCm := KCl.step KC n41
    replace hb27 := k42.heap hb27 (not_or.2 ⟨Ne.symm n25, hw34.offT hb27 (by decide)⟩)
    replace K := K.trans' k42 (WLink.par lk37)
    replace KC := KC.trans' k42 (fun i hi e => WLink.par KCl i hi e)
    replace KCl := KCm
    clear hw34 n41 lk37
    refine WL.nil ?_
    refine WX.nxt KC ?_
    refine WA.done (k := ?_)
    clear KC
    refine WX.blockN ?_
    refine WX.seqN ?_
    refine WC.region ?_
    refine WL.opE (d := 23) (.int .i64 (IntKind.i64.wrap (i + 1))) (v := .int .i64 (i + 1)) (congrArg (Value.int .i64) (IntWalk.i64_in _ (by omega))) (k := ?_)
    refine WL.op (d := 12) (.int .i64 (i + 1)) (k := ?_)
    refine WL.nil ?_
    have e44 : bs ++ encNum (Int.toNat (fs.length : Int)) ++ fsU fs i ++ encNum (Int.toNat r13.kind) ++ encNum (Int.toNat r13.at_) = bs ++ encNum (Int.toNat (fs.length : Int)) ++ fsU fs (i + 1) := fsU_succ i0 hr14 _
    rw [e44] at hw40
    refine WX.round (i + 1, r39) (by show (fs.length - (i + 1)).toNat < (fs.length - i).toNat; omega) ⟨(by kernel_rfl), (by kernel_rfl), (by kernel_rfl), (by kernel_rfl), (by kernel_rfl), (by kernel_rfl), (by kernel_rfl), (by kernel_rfl), trivial⟩ ⟨K, hw40, lk43, (by omega), (by omega)⟩
  · have ph10 := of_decide_eq_false h10
    refine WC.exit ?_
    refine WX.seqE ?_
    refine WX.seqE ?_
    refine WX.blockE ?_
    refine WX.end (rs := []) [] (.tuple #[]) trivial (k := ?_)
    rw [fsU_end (by omega), Int.toNat_natCast, List.append_assoc] at hb8
    exact ⟨rfl, _, hb8, lk9, K⟩

set_option maxRecDepth 100000 in
set_option maxHeartbeats 4000000 in
theorem sPuts_c {c : GCmd} {b : Nat} {r : Option Nat} {bs : List UInt8} {w : World} (hw : BuR 64 0 b r bs w) (hc : SlAt fateC 2 50 c.A c.p.fs w) (hd : c.p.fs ≠ [] → ∀ p, c.A = some p → ¬ (p.block = b ∨ r = some p.block)) (hok : c.p.ok) (hb : bs.length ≤ 10000000) : Calls Try.prog 28 #[.pointer (some ⟨b, 0, none⟩), c.val] w fun e w' => e = .returned (.tuple #[]) ∧ WrPost 64 b r (bs ++ c.p.enc) w w' := by
  have K : Keeps (fun i => i = b ∨ r = some i) w w := Keeps.refl _ w
  obtain ⟨_, _, _, _, _, _, _, _, _⟩ := hok.2.1
  have n1_ := encNum_len (Int.toNat c.p.kind) (by omega)
  have n2_ := encNum_len (Int.toNat c.p.id) (by omega)
  have n3_ := encNum_len (Int.toNat c.p.work) (by omega)
  have n4_ := encNum_len (Int.toNat c.p.n) (by omega)
  have n5_ := encNum_len (Int.toNat (c.p.fs.length : Int)) (by omega)
  have lk0 : WLink w r r := .inl rfl
  refine Calls.start Try.func28 rfl (by kernel_rfl) ?_
  refine WC.seq ?_
  refine WC.region ?_
  refine WL.new (d := 3) (T := 32) (Value.cells (GCmd.val c)) (k := fun b1 w2 g3 hb4 k5 => ?_)
  have z6 := Nat.le_trans K.size g3
  have n7 : b ≠ b1 := Nat.ne_of_lt (Nat.lt_of_lt_of_le hw.ltb g3)
  replace hw := hw.movA k5
  replace K := K.trans (k5.any _)
  refine WL.nil ?_
  refine WX.seqN ?_
  refine WC.seq ?_
  refine WC.region ?_
  refine WL.op (d := 6) (.pointer (some ⟨b, 0, none⟩)) (k := ?_)
  refine WL.op (d := 7) (.pointer (some ⟨b1, 0, none⟩)) (k := ?_)
  refine WL.load (v := .int .i64 c.p.kind) (ld1 (T := 3) (i := 0) hb4) (k := ?_)
  refine WL.callG (d := 9) (f := 41) (args := #[.pointer (some ⟨b, 0, none⟩), .int .i64 c.p.kind]) (wInt_r _ _ _ c.p.kind (by omega) _ hw (by (try simp only [List.length_append] at *); omega)) (k := fun e_ w8 h_ => ?_)
  obtain ⟨rfl, r9, hw10, n11, k12⟩ := h_
  refine ⟨_, rfl, ?_⟩
  have lk13 := lk0.step K n11
  replace hb4 := k12.heap hb4 (not_or.2 ⟨Ne.symm n7, hw.offT hb4 (by decide)⟩)
  replace K := K.trans' k12 (WLink.par lk0)
  clear hw n11 lk0
  refine WL.nil ?_
  refine WX.seqN ?_
  refine WC.seq ?_
  refine WC.region ?_
  refine WL.op (d := 10) (.pointer (some ⟨b1, 0, none⟩)) (k := ?_)
  refine WL.load (v := .int .i64 c.p.kind) (ld1 (T := 3) (i := 0) hb4) (k := ?_)
  refine WL.nil ?_
  refine WX.seqN ?_
  refine WC.block ?_
  refine WC.seq ?_
  refine WC.region ?_
  refine WL.op (d := 13) (.bool (c.p.kind == 1)) (k := ?_)
  refine WL.op (d := 12) (.bool (c.p.kind == 1)) (k := ?_)
  refine WL.nil ?_
  refine WX.seqN ?_
  refine WC.cond (b := c.p.kind == 1) (ht := fun h14 => ?_) (hf := fun h14 => ?_)
  · have ph14 := eq_of_beq h14
    refine WC.seq ?_
    have h15 : decide (GOp.ok c.p.op) = true := decide_eq_true (hok.2.2.2 (by omega))
    have ph15 := of_decide_eq_true h15
    refine WC.region ?_
    refine WL.op (d := 15) (.pointer (some ⟨b1, 1, none⟩)) (k := ?_)
    refine WL.load (v := GOp.val c.p.op) (ldN (T := 29) (i := 1) (m := 10) (l := (Value.cells (GOp.val c.p.op)).toList) hb4) (k := ?_)
    refine WL.callG (d := 17) (f := 42) (args := #[GOp.val c.p.op]) (pBytes_ok c.p.op ph15 w8) (k := fun e_ w17 h_ => ⟨.tuple #[.string ⟨(GOp.enc c.p.op).toArray⟩, .int .i64 0], h_.1, ?_⟩)
    have k18 := h_.2; clear h_
    replace hw10 := hw10.movA k18
    replace hb4 := k18.heap hb4 id
    replace K := K.trans (k18.any _)
    have ln16 := enc_len43 ph15
    refine WL.op (d := 14) (.tuple #[.string ⟨(GOp.enc c.p.op).toArray⟩, .int .i64 0]) (k := ?_)
    refine WL.op (d := 18) (.string ⟨(GOp.enc c.p.op).toArray⟩) (k := ?_)
    refine WL.op (d := 19) (.int .i64 0) (k := ?_)
    refine WL.op (d := 4) (.string ⟨(GOp.enc c.p.op).toArray⟩) (k := ?_)
    refine WL.op (d := 5) (.int .i64 0) (k := ?_)
    refine WL.nil ?_
    refine WX.seqN ?_
    refine WC.region ?_
    refine WL.op (d := 20) (.pointer (some ⟨b, 0, none⟩)) (k := ?_)
    refine WL.op (d := 21) (.string ⟨(GOp.enc c.p.op).toArray⟩) (k := ?_)
    refine WL.callG (d := 22) (f := 43) (args := #[.pointer (some ⟨b, 0, none⟩), .string ⟨(GOp.enc c.p.op).toArray⟩]) (wText_r _ _ _ (GOp.enc c.p.op) (by omega) _ hw10 (by (try simp only [List.length_append] at *); omega)) (k := fun e_ w19 h_ => ?_)
    obtain ⟨rfl, r20, hw21, n22, k23⟩ := h_
    refine ⟨_, rfl, ?_⟩
    have lk24 := lk13.step K n22
    replace hb4 := k23.heap hb4 (not_or.2 ⟨Ne.symm n7, hw10.offT hb4 (by decide)⟩)
    replace K := K.trans' k23 (WLink.par lk13)
    clear hw10 n22 lk13
    refine WL.nil ?_
    refine WX.blockN ?_
    refine WX.end (rs := []) [] (.tuple #[]) trivial (k := ?_)
    have e_ : bs ++ encNum (Int.toNat c.p.kind) ++ encText (GOp.enc c.p.op) = bs ++ c.p.enc := enc_k1 ph14 bs
    rw [e_] at hw21
    exact ⟨rfl, _, hw21, lk24, K⟩
  · have ph14 := ne_of_beq_false h14
    refine WC.seq ?_
    refine WC.seq ?_
    refine WC.region ?_
    refine WL.op (d := 24) (.bool (c.p.kind == 2)) (k := ?_)
    refine WL.op (d := 23) (.bool (c.p.kind == 2)) (k := ?_)
    refine WL.nil ?_
    refine WX.seqN ?_
    refine WC.cond (b := c.p.kind == 2) (ht := fun h25 => ?_) (hf := fun h25 => ?_)
    · have ph25 := eq_of_beq h25
      refine WC.skip ?_
      refine WX.seqN ?_
      refine WC.rw (t := 23) (v := .bool true) (congrArg Value.bool h25) (k := ?_)
      refine WC.condT (k := ?_)
      refine WC.mixed (fun k => k = b ∨ r9 = some k) 8 (k := fun w26 k27 => ?_)
      replace hw10 := hw10.movA k27
      replace hb4 := k27.heap hb4 id
      replace K := K.trans (k27.any _)
      have KC := Keeps.refl (fun k => k = b ∨ r9 = some k) w26
      have KCl : WLink w26 r9 r9 := .inl rfl
      have bh28 := hb4
      have Kb := K
      refine WA.quiet2 0 (d := 26) (.pointer (some ⟨b, 0, none⟩)) KC (hi := rfl) (k := ?_)
      refine WA.quiet2 1 (d := 27) (.pointer (some ⟨b1, 11, none⟩)) KC (hi := rfl) (k := ?_)
      refine WA.quietR2 2 (d := 28) (.int .i64 c.p.id) KC (exec_load (fun w_ k_ => ld1 (T := 3) (i := 11) (k_.heap bh28 (not_or.2 ⟨Ne.symm n7, hw10.offT hb4 (by decide)⟩)))) (hi := rfl) (k := ?_)
      refine WA.quiet2 4 (d := 30) (.pointer (some ⟨b1, 12, none⟩)) KC (hi := rfl) (k := ?_)
      refine WA.quietR2 5 (d := 31) (.int .i64 c.p.work) KC (exec_load (fun w_ k_ => ld1 (T := 2) (i := 12) (k_.heap bh28 (not_or.2 ⟨Ne.symm n7, hw10.offT hb4 (by decide)⟩)))) (hi := rfl) (k := ?_)
      refine WA.quiet2 6 (d := 32) (.int .u64 (IntKind.u64.wrap c.p.work)) KC (hi := rfl) (k := ?_)
      refine WA.rw (t := 32) (v := .int .u64 c.p.work) (congrArg (Value.int .u64) (IntWalk.u64_in _ (by omega))) (k := ?_)
      refine WA.step 3 (hi := rfl) (k := ?_)
      refine WL.callG (d := 29) (f := 41) (args := #[.pointer (some ⟨b, 0, none⟩), .int .i64 c.p.id]) (wInt_r _ _ _ c.p.id (by omega) _ hw10 (by (try simp only [List.length_append] at *); omega)) (k := fun e_ w29 h_ => ?_)
      obtain ⟨rfl, r30, hw31, n32, k33⟩ := h_
      refine ⟨_, rfl, ?_⟩
      have lk34 := lk13.step K n32
      have KCm := KCl.step KC n32
      replace hb4 := k33.heap hb4 (not_or.2 ⟨Ne.symm n7, hw10.offT hb4 (by decide)⟩)
      replace K := K.trans' k33 (WLink.par lk13)
      replace KC := KC.trans' k33 (fun i hi e => e)
      replace KCl := KCm
      clear hw10 n32 lk13
      refine WL.nil ?_
      refine WX.nxt KC ?_
      refine WA.step 7 (hi := rfl) (k := ?_)
      refine WL.callG (d := 33) (f := 44) (args := #[.pointer (some ⟨b, 0, none⟩), .int .u64 c.p.work]) (wNum_r _ _ _ (Int.toNat c.p.work) c.p.work (by omega) (by omega) _ hw31 (by (try simp only [List.length_append] at *); omega)) (k := fun e_ w35 h_ => ?_)
      obtain ⟨rfl, r36, hw37, n38, k39⟩ := h_
      refine ⟨_, rfl, ?_⟩
      have lk40 := lk34.step K n38
      have KCm := KCl.step KC n38
      replace hb4 := k39.heap hb4 (not_or.2 ⟨Ne.symm n7, hw31.offT hb4 (by decide)⟩)
      replace K := K.trans' k39 (WLink.par lk34)
      replace KC := KC.trans' k39 (fun i hi e => WLink.par KCl i hi e)
      replace KCl := KCm
      clear hw31 n38 lk34
      refine WL.nil ?_
      refine WX.nxt KC ?_
      refine WA.done (k := ?_)
      clear KC
      refine WX.blockN ?_
      refine WX.end (rs := []) [] (.tuple #[]) trivial (k := ?_)
      have e_ : bs ++ encNum (Int.toNat c.p.kind) ++ encNum (Int.toNat c.p.id) ++ encNum (Int.toNat c.p.work) = bs ++ c.p.enc := enc_k2 ph25 bs
      rw [e_] at hw37
      exact ⟨rfl, _, hw37, lk40, K⟩
    · have ph25 := ne_of_beq_false h25
      refine WC.region ?_
      refine WL.op (d := 25) (.bool (c.p.kind == 3)) (k := ?_)
      refine WL.op (d := 23) (.bool (c.p.kind == 3)) (k := ?_)
      refine WL.nil ?_
      refine WX.seqN ?_
      refine WC.cond (b := c.p.kind == 3) (ht := fun h41 => ?_) (hf := fun h41 => ?_)
      · have ph41 := eq_of_beq h41
        refine WC.mixed (fun k => k = b ∨ r9 = some k) 8 (k := fun w42 k43 => ?_)
        replace hw10 := hw10.movA k43
        replace hb4 := k43.heap hb4 id
        replace K := K.trans (k43.any _)
        have KC := Keeps.refl (fun k => k = b ∨ r9 = some k) w42
        have KCl : WLink w42 r9 r9 := .inl rfl
        have bh44 := hb4
        have Kb := K
        refine WA.quiet2 0 (d := 26) (.pointer (some ⟨b, 0, none⟩)) KC (hi := rfl) (k := ?_)
        refine WA.quiet2 1 (d := 27) (.pointer (some ⟨b1, 11, none⟩)) KC (hi := rfl) (k := ?_)
        refine WA.quietR2 2 (d := 28) (.int .i64 c.p.id) KC (exec_load (fun w_ k_ => ld1 (T := 3) (i := 11) (k_.heap bh44 (not_or.2 ⟨Ne.symm n7, hw10.offT hb4 (by decide)⟩)))) (hi := rfl) (k := ?_)
        refine WA.quiet2 4 (d := 30) (.pointer (some ⟨b1, 12, none⟩)) KC (hi := rfl) (k := ?_)
        refine WA.quietR2 5 (d := 31) (.int .i64 c.p.work) KC (exec_load (fun w_ k_ => ld1 (T := 2) (i := 12) (k_.heap bh44 (not_or.2 ⟨Ne.symm n7, hw10.offT hb4 (by decide)⟩)))) (hi := rfl) (k := ?_)
        refine WA.quiet2 6 (d := 32) (.int .u64 (IntKind.u64.wrap c.p.work)) KC (hi := rfl) (k := ?_)
        refine WA.rw (t := 32) (v := .int .u64 c.p.work) (congrArg (Value.int .u64) (IntWalk.u64_in _ (by omega))) (k := ?_)
        refine WA.step 3 (hi := rfl) (k := ?_)
        refine WL.callG (d := 29) (f := 41) (args := #[.pointer (some ⟨b, 0, none⟩), .int .i64 c.p.id]) (wInt_r _ _ _ c.p.id (by omega) _ hw10 (by (try simp only [List.length_append] at *); omega)) (k := fun e_ w45 h_ => ?_)
        obtain ⟨rfl, r46, hw47, n48, k49⟩ := h_
        refine ⟨_, rfl, ?_⟩
        have lk50 := lk13.step K n48
        have KCm := KCl.step KC n48
        replace hb4 := k49.heap hb4 (not_or.2 ⟨Ne.symm n7, hw10.offT hb4 (by decide)⟩)
        replace K := K.trans' k49 (WLink.par lk13)
        replace KC := KC.trans' k49 (fun i hi e => e)
        replace KCl := KCm
        clear hw10 n48 lk13
        refine WL.nil ?_
        refine WX.nxt KC ?_
        refine WA.step 7 (hi := rfl) (k := ?_)
        refine WL.callG (d := 33) (f := 44) (args := #[.pointer (some ⟨b, 0, none⟩), .int .u64 c.p.work]) (wNum_r _ _ _ (Int.toNat c.p.work) c.p.work (by omega) (by omega) _ hw47 (by (try simp only [List.length_append] at *); omega)) (k := fun e_ w51 h_ => ?_)
        obtain ⟨rfl, r52, hw53, n54, k55⟩ := h_
        refine ⟨_, rfl, ?_⟩
        have lk56 := lk50.step K n54
        have KCm := KCl.step KC n54
        replace hb4 := k55.heap hb4 (not_or.2 ⟨Ne.symm n7, hw47.offT hb4 (by decide)⟩)
        replace K := K.trans' k55 (WLink.par lk50)
        replace KC := KC.trans' k55 (fun i hi e => WLink.par KCl i hi e)
        replace KCl := KCm
        clear hw47 n54 lk50
        refine WL.nil ?_
        refine WX.nxt KC ?_
        refine WA.done (k := ?_)
        clear KC
        refine WX.blockN ?_
        refine WX.end (rs := []) [] (.tuple #[]) trivial (k := ?_)
        have e_ : bs ++ encNum (Int.toNat c.p.kind) ++ encNum (Int.toNat c.p.id) ++ encNum (Int.toNat c.p.work) = bs ++ c.p.enc := enc_k3 ph41 bs
        rw [e_] at hw53
        exact ⟨rfl, _, hw53, lk56, K⟩
      · have ph41 := ne_of_beq_false h41
        refine WC.seq ?_
        refine WC.seq ?_
        refine WC.region ?_
        refine WL.op (d := 35) (.bool (c.p.kind == 4)) (k := ?_)
        refine WL.op (d := 34) (.bool (c.p.kind == 4)) (k := ?_)
        refine WL.nil ?_
        refine WX.seqN ?_
        refine WC.cond (b := c.p.kind == 4) (ht := fun h57 => ?_) (hf := fun h57 => ?_)
        · have ph57 := eq_of_beq h57
          refine WC.skip ?_
          refine WX.seqN ?_
          refine WC.rw (t := 34) (v := .bool true) (congrArg Value.bool h57) (k := ?_)
          refine WC.condT (k := ?_)
          refine WC.region ?_
          refine WL.op (d := 37) (.pointer (some ⟨b, 0, none⟩)) (k := ?_)
          refine WL.op (d := 38) (.pointer (some ⟨b1, 13, none⟩)) (k := ?_)
          refine WL.load (v := .int .i64 c.p.n) (ld1 (T := 3) (i := 13) hb4) (k := ?_)
          refine WL.callG (d := 40) (f := 41) (args := #[.pointer (some ⟨b, 0, none⟩), .int .i64 c.p.n]) (wInt_r _ _ _ c.p.n (by omega) _ hw10 (by (try simp only [List.length_append] at *); omega)) (k := fun e_ w58 h_ => ?_)
          obtain ⟨rfl, r59, hw60, n61, k62⟩ := h_
          refine ⟨_, rfl, ?_⟩
          have lk63 := lk13.step K n61
          replace hb4 := k62.heap hb4 (not_or.2 ⟨Ne.symm n7, hw10.offT hb4 (by decide)⟩)
          replace K := K.trans' k62 (WLink.par lk13)
          clear hw10 n61 lk13
          refine WL.nil ?_
          refine WX.blockN ?_
          refine WX.end (rs := []) [] (.tuple #[]) trivial (k := ?_)
          have e_ : bs ++ encNum (Int.toNat c.p.kind) ++ encNum (Int.toNat c.p.n) = bs ++ c.p.enc := enc_k4 ph57 bs
          rw [e_] at hw60
          exact ⟨rfl, _, hw60, lk63, K⟩
        · have ph57 := ne_of_beq_false h57
          refine WC.region ?_
          refine WL.op (d := 36) (.bool (c.p.kind == 7)) (k := ?_)
          refine WL.op (d := 34) (.bool (c.p.kind == 7)) (k := ?_)
          refine WL.nil ?_
          refine WX.seqN ?_
          refine WC.cond (b := c.p.kind == 7) (ht := fun h64 => ?_) (hf := fun h64 => ?_)
          · have ph64 := eq_of_beq h64
            refine WC.region ?_
            refine WL.op (d := 37) (.pointer (some ⟨b, 0, none⟩)) (k := ?_)
            refine WL.op (d := 38) (.pointer (some ⟨b1, 13, none⟩)) (k := ?_)
            refine WL.load (v := .int .i64 c.p.n) (ld1 (T := 3) (i := 13) hb4) (k := ?_)
            refine WL.callG (d := 40) (f := 41) (args := #[.pointer (some ⟨b, 0, none⟩), .int .i64 c.p.n]) (wInt_r _ _ _ c.p.n (by omega) _ hw10 (by (try simp only [List.length_append] at *); omega)) (k := fun e_ w65 h_ => ?_)
            obtain ⟨rfl, r66, hw67, n68, k69⟩ := h_
            refine ⟨_, rfl, ?_⟩
            have lk70 := lk13.step K n68
            replace hb4 := k69.heap hb4 (not_or.2 ⟨Ne.symm n7, hw10.offT hb4 (by decide)⟩)
            replace K := K.trans' k69 (WLink.par lk13)
            clear hw10 n68 lk13
            refine WL.nil ?_
            refine WX.blockN ?_
            refine WX.end (rs := []) [] (.tuple #[]) trivial (k := ?_)
            have e_ : bs ++ encNum (Int.toNat c.p.kind) ++ encNum (Int.toNat c.p.n) = bs ++ c.p.enc := enc_k7 ph64 bs
            rw [e_] at hw67
            exact ⟨rfl, _, hw67, lk70, K⟩
          · have ph64 := ne_of_beq_false h64
            refine WC.seq ?_
            refine WC.region ?_
            refine WL.op (d := 42) (.bool (c.p.kind == 5)) (k := ?_)
            refine WL.op (d := 41) (.bool (c.p.kind == 5)) (k := ?_)
            refine WL.nil ?_
            refine WX.seqN ?_
            refine WC.cond (b := c.p.kind == 5) (ht := fun h71 => ?_) (hf := fun h71 => ?_)
            · have ph71 := eq_of_beq h71
              refine WC.region ?_
              refine WL.op (d := 43) (.pointer (some ⟨b, 0, none⟩)) (k := ?_)
              refine WL.op (d := 44) (.pointer (some ⟨b1, 11, none⟩)) (k := ?_)
              refine WL.load (v := .int .i64 c.p.id) (ld1 (T := 3) (i := 11) hb4) (k := ?_)
              refine WL.callG (d := 46) (f := 41) (args := #[.pointer (some ⟨b, 0, none⟩), .int .i64 c.p.id]) (wInt_r _ _ _ c.p.id (by omega) _ hw10 (by (try simp only [List.length_append] at *); omega)) (k := fun e_ w72 h_ => ?_)
              obtain ⟨rfl, r73, hw74, n75, k76⟩ := h_
              refine ⟨_, rfl, ?_⟩
              have lk77 := lk13.step K n75
              replace hb4 := k76.heap hb4 (not_or.2 ⟨Ne.symm n7, hw10.offT hb4 (by decide)⟩)
              replace K := K.trans' k76 (WLink.par lk13)
              clear hw10 n75 lk13
              refine WL.nil ?_
              refine WX.blockN ?_
              refine WX.end (rs := []) [] (.tuple #[]) trivial (k := ?_)
              have e_ : bs ++ encNum (Int.toNat c.p.kind) ++ encNum (Int.toNat c.p.id) = bs ++ c.p.enc := enc_k5 ph71 bs
              rw [e_] at hw74
              exact ⟨rfl, _, hw74, lk77, K⟩
            · have ph71 := ne_of_beq_false h71
              refine WC.seq ?_
              refine WC.region ?_
              refine WL.op (d := 48) (.bool (c.p.kind == 8)) (k := ?_)
              refine WL.op (d := 47) (.bool (c.p.kind == 8)) (k := ?_)
              refine WL.nil ?_
              refine WX.seqN ?_
              refine WC.cond (b := c.p.kind == 8) (ht := fun h78 => ?_) (hf := fun h78 => ?_)
              · have ph78 := eq_of_beq h78
                refine WC.region ?_
                refine WL.op (d := 49) (.pointer (some ⟨b, 0, none⟩)) (k := ?_)
                refine WL.op (d := 50) (.pointer (some ⟨b1, 14, none⟩)) (k := ?_)
                refine WL.load (v := .slice c.A c.p.fs.length c.cap) (ld1 (T := 30) (i := 14) hb4) (k := ?_)
                refine WL.callG (d := 52) (f := 45) (args := #[.pointer (some ⟨b, 0, none⟩), .slice c.A c.p.fs.length c.cap]) (sFates_c (cp := c.cap) hw10 (hc.keeps K hd) (off_link hd (SlAt.lt hc) lk13) hok.2.2.1 (by omega) (by (try simp only [List.length_append] at *); omega)) (k := fun e_ w79 h_ => ?_)
                obtain ⟨rfl, r80, hw81, n82, k83⟩ := h_
                refine ⟨_, rfl, ?_⟩
                have lk84 := lk13.step K n82
                replace hb4 := k83.heap hb4 (not_or.2 ⟨Ne.symm n7, hw10.offT hb4 (by decide)⟩)
                replace K := K.trans' k83 (WLink.par lk13)
                clear hw10 n82 lk13
                refine WL.nil ?_
                refine WX.blockN ?_
                refine WX.end (rs := []) [] (.tuple #[]) trivial (k := ?_)
                have e_ : bs ++ encNum (Int.toNat c.p.kind) ++ (encNum c.p.fs.length ++ c.p.fs.flatMap encFate) = bs ++ c.p.enc := enc_k8 ph78 bs
                rw [e_] at hw81
                exact ⟨rfl, _, hw81, lk84, K⟩
              · have ph78 := ne_of_beq_false h78
                refine WC.skip ?_
                refine WX.blockN ?_
                refine WX.end (rs := []) [] (.tuple #[]) trivial (k := ?_)
                have e_ : bs ++ encNum (Int.toNat c.p.kind) = bs ++ c.p.enc := enc_k6 ph14 ph25 ph41 ph57 ph64 ph71 ph78 bs
                rw [e_] at hw10
                exact ⟨rfl, _, hw10, lk13, K⟩

set_option maxRecDepth 100000 in
set_option maxHeartbeats 4000000 in
theorem sBytes_c {A : Option Addr} {cp : Nat} {xs : List GCmd} {w : World} (hA : SlAt cmdC 15 32 A xs w) (hF : Fts 1000000000 xs w) (hn : xs.length ≤ 10000) : Calls Try.prog 13 #[.slice A xs.length cp] w fun e w' => e = .returned (.string ⟨(bytesC (xs.map GCmd.p)).toArray⟩) ∧ Adds w w' := by
  have K : Keeps (fun _ => False) w w := Keeps.refl _ w
  refine Calls.start Try.func13 rfl (by kernel_rfl) ?_
  refine WC.seq ?_
  refine WC.region ?_
  refine WL.op (d := 2) (.string ⟨#[]⟩) (k := ?_)
  refine WL.nil ?_
  refine WX.seqN ?_
  refine WC.seq ?_
  refine WC.region ?_
  refine WL.op (d := 6) (.agg #[.pointer none, .slice none 0 0]) (k := ?_)
  refine WL.new (d := 7) (T := 64) #[.pointer none, .slice none 0 0] (k := fun b1 w2 g3 hb4 k5 => ?_)
  have z6 := Nat.le_trans K.size g3
  replace K := K.trans (k5.any _)
  have hw7 := BuR.newW hb4
  have lk8 : WLink w none none := .inl rfl
  clear hb4
  refine WL.op (d := 3) (.pointer (some ⟨b1, 0, none⟩)) (k := ?_)
  refine WL.nil ?_
  refine WX.seqN ?_
  refine WC.seq ?_
  refine WC.seq ?_
  refine WC.region ?_
  refine WL.op (d := 8) (.slice A xs.length cp) (k := ?_)
  refine WL.op (d := 9) (.int .i64 (xs.length : Int)) (k := ?_)
  refine WL.op (d := 10) (.int .i64 0) (k := ?_)
  refine WL.nil ?_
  refine WX.seqN ?_
  refine WC.block ?_
  rw [show [] = csU xs 0 from by rw [csU_zero]] at hw7
  refine WC.loop (ι := Int × (Option Nat)) (fun (⟨i, ro⟩ : Int × (Option Nat)) => [(0, .slice A xs.length cp), (6, .agg #[.pointer none, .slice none 0 0]), (7, .pointer (some ⟨b1, 0, none⟩)), (3, .pointer (some ⟨b1, 0, none⟩)), (8, .slice A xs.length cp), (9, .int .i64 (xs.length : Int)), (10, .int .i64 i)]) (fun (⟨i, ro⟩ : Int × (Option Nat)) (w_ : World) => (Keeps (fun _ => False) w w_) ∧ (BuR 64 0 b1 ro (csU xs i) w_) ∧ (WLink w none ro) ∧ (0 ≤ i) ∧ (i ≤ xs.length) ∧ (upC xs i)) (fun (⟨i, ro⟩ : Int × (Option Nat)) => (xs.length - i).toNat) (0, none) ⟨(by kernel_rfl), (by kernel_rfl), (by kernel_rfl), (by kernel_rfl), (by kernel_rfl), (by kernel_rfl), (by kernel_rfl), trivial⟩ ⟨K, hw7, lk8, Int.le_refl 0, (by omega), upC_zero _⟩ ?_
  rintro ⟨i, ro⟩ w9 ⟨K, hb10, lk11, i0, i1, iu⟩
  have lu_ := csU_len iu
  refine WC.seq ?_
  refine WC.region ?_
  refine WL.op (d := 11) (.bool (decide (i < (xs.length : Int)))) (k := ?_)
  refine WL.nil ?_
  refine WX.seqN ?_
  refine WC.seq ?_
  refine WC.cond (b := decide (i < (xs.length : Int))) (ht := fun h12 => ?_) (hf := fun h12 => ?_)
  · have ph12 := of_decide_eq_true h12
    refine WC.skip ?_
    refine WX.seqN ?_
    refine WC.seq ?_
    refine WC.block ?_
    refine WC.seq ?_
    refine WC.region ?_
    obtain ⟨b13, o14, r15, hr16, hA17, he18⟩ := SlAt.at hA (i := i) (by omega) (by omega)
    refine WL.rw (t := 8) (v := .slice (some ⟨b13, o14, none⟩) xs.length cp) (congrArg (fun a => Value.slice a xs.length cp) hA17) (k := ?_)
    obtain ⟨hs19, hc20, hl21⟩ := fts_mem hF hr16
    refine WL.idx (T := 22) (E := 32) (m := 15) (b := b13) (o := o14) (len := xs.length) (cap := cp) (i := i) (kk := .i64) (d := 12) (by omega) (by omega) (k := ?_)
    refine WL.rw (t := 8) (v := .slice A xs.length cp) (congrArg (fun a => Value.slice a xs.length cp) (Eq.symm hA17)) (k := ?_)
    refine WL.load (v := GCmd.val r15) ((he18.adds K).ldW (T := 32)) (k := ?_)
    refine WL.new (d := 5) (T := 32) #[.int .i64 0, .int .i64 0, .int .i64 0, .int .i64 0, .int .i64 0, .int .i64 0, .int .i64 0, .bool false, .int .i64 0, .int .i64 0, .int .i64 0, .int .i64 0, .int .i64 0, .int .i64 0, .slice none 0 0] (k := fun b22 w23 g24 hb25 k26 => ?_)
    have z27 := Nat.le_trans K.size g24
    have n28 : b1 ≠ b22 := Nat.ne_of_lt (Nat.lt_of_lt_of_le hb10.ltb g24)
    replace hb10 := hb10.movA k26
    replace K := K.trans (k26.any _)
    refine WL.store (v := GCmd.val r15) (i := 0) (cs' := (Value.cells (GCmd.val r15))) hb25 (k := fun w29 hb30 k31 => ?_)
    replace hb10 := hb10.mov1 k31 n28 (hb10.offT hb25 (by decide))
    replace K := K.trans' k31 (fun i hi e => absurd (e ▸ hi) (Nat.not_lt.2 z27))
    clear hb25
    refine WL.nil ?_
    refine WX.seqN ?_
    refine WC.seq ?_
    refine WC.seq ?_
    refine WC.region ?_
    refine WL.load (v := GCmd.val r15) (ldN (T := 32) (i := 0) (m := 15) (l := (Value.cells (GCmd.val r15)).toList) hb30) (k := ?_)
    refine WL.callG (d := 15) (f := 9) (args := #[GCmd.val r15]) (sCheck_c (c := r15) (hs19.adds K) (by first | omega | simp)) (k := fun e_ w32 h_ => ⟨.bool (cokB r15.p), h_.1, ?_⟩)
    have k33 := h_.2; clear h_
    replace hb10 := hb10.movA k33
    replace hb30 := k33.heap hb30 id
    replace K := K.trans (k33.any _)
    refine WL.op (d := 16) (.bool (!(cokB r15.p))) (k := ?_)
    refine WL.nil ?_
    refine WX.seqN ?_
    refine WC.cond (b := !(cokB r15.p)) (ht := fun h34 => ?_) (hf := fun h34 => ?_)
    · have h35 : (cokB r15.p) = false := Bool.not_inj (y := false) h34
      have ph35 := cok_f h35
      refine WC.seq ?_
      refine WC.region ?_
      refine WL.op (d := 2) (.string ⟨#[]⟩) (k := ?_)
      refine WL.nil ?_
      refine WX.seqN ?_
      refine WC.ret ?_
      refine WX.seqR ?_
      refine WX.blockR ?_
      refine WX.seqR ?_
      refine WX.seqR ?_
      refine WX.blockR ?_
      refine WX.seqR ?_
      refine WX.ret (rs := [.tmp 2]) [.string ⟨#[]⟩] (.string ⟨#[]⟩) ⟨(by kernel_rfl), trivial⟩ (k := ?_)
      exact ⟨by rw [bytesC_no hr16 ph35], K⟩
    · have h36 : (cokB r15.p) = true := Bool.not_inj (y := true) h34
      have ph36 := cok_t h36
      refine WC.skip ?_
      refine WX.seqN ?_
      refine WC.region ?_
      refine WL.op (d := 17) (.pointer (some ⟨b1, 0, none⟩)) (k := ?_)
      refine WL.load (v := GCmd.val r15) (ldN (T := 32) (i := 0) (m := 15) (l := (Value.cells (GCmd.val r15)).toList) hb30) (k := ?_)
      refine WL.callG (d := 19) (f := 28) (args := #[.pointer (some ⟨b1, 0, none⟩), GCmd.val r15]) (sPuts_c (c := r15) hb10 (hs19.adds K) (off_own hs19 z6 lk11) ph36 (by (try simp only [List.length_append] at *); omega)) (k := fun e_ w37 h_ => ?_)
      obtain ⟨rfl, r38, hw39, n40, k41⟩ := h_
      refine ⟨_, rfl, ?_⟩
      have lk42 := lk11.step K n40
      replace hb30 := k41.heap hb30 (not_or.2 ⟨Ne.symm n28, hb10.offT hb30 (by decide)⟩)
      replace K := K.trans' k41 (WLink.own lk11 z6 _)
      clear hb10 n40 lk11
      refine WL.nil ?_
      refine WX.blockN ?_
      refine WX.seqN ?_
      refine WC.region ?_
      refine WL.opE (d := 20) (.int .i64 (IntKind.i64.wrap (i + 1))) (v := .int .i64 (i + 1)) (congrArg (Value.int .i64) (IntWalk.i64_in _ (by omega))) (k := ?_)
      refine WL.op (d := 10) (.int .i64 (i + 1)) (k := ?_)
      refine WL.nil ?_
      have e43 : csU xs i ++ r15.p.enc = csU xs (i + 1) := csU_succ i0 hr16
      rw [e43] at hw39
      refine WX.round (i + 1, r38) (by show (xs.length - (i + 1)).toNat < (xs.length - i).toNat; omega) ⟨(by kernel_rfl), (by kernel_rfl), (by kernel_rfl), (by kernel_rfl), (by kernel_rfl), (by kernel_rfl), (by kernel_rfl), trivial⟩ ⟨K, hw39, lk42, (by omega), (by omega), (upC_succ i0 iu hr16 ph36)⟩
  · have ph12 := of_decide_eq_false h12
    refine WC.exit ?_
    refine WX.seqE ?_
    refine WX.seqE ?_
    refine WX.blockE ?_
    refine WX.seqN ?_
    refine WC.seq ?_
    refine WC.region ?_
    refine WL.op (d := 21) (.pointer (some ⟨b1, 0, none⟩)) (k := ?_)
    refine WL.callG (d := 22) (f := 29) (args := #[.pointer (some ⟨b1, 0, none⟩)]) (wString_s _ _ _ _ hb10 (by (try simp only [List.length_append] at *); omega)) (k := fun e_ w44 h_ => ?_)
    obtain ⟨rfl, r45, hw46, n47, k48⟩ := h_
    refine ⟨_, rfl, ?_⟩
    have lk49 := lk11.step K n47
    replace K := K.trans' k48 (WLink.own lk11 z6 _)
    clear hb10 n47 lk11
    refine WL.op (d := 2) (.string ⟨(csU xs i).toArray⟩) (k := ?_)
    refine WL.nil ?_
    refine WX.seqN ?_
    refine WC.ret ?_
    refine WX.ret (rs := [.tmp 2]) [.string ⟨(csU xs i).toArray⟩] (.string ⟨(csU xs i).toArray⟩) ⟨(by kernel_rfl), trivial⟩ (k := ?_)
    exact ⟨by rw [bytesC_ok (upC_end (i := i) (by omega) iu), csU_end (by omega)], K⟩

set_option maxRecDepth 100000 in
set_option maxHeartbeats 4000000 in
theorem u23one_c {c : GCmd} {w : World} (hc : SlAt fateC 2 50 c.A c.p.fs w) (hok : c.p.ok) : Calls Try.prog 30 #[c.val] w fun e w' => e = .returned (.string ⟨(c.p.enc).toArray⟩) ∧ Adds w w' := by
  have K : Keeps (fun _ => False) w w := Keeps.refl _ w
  obtain ⟨_, _, _, _, _, _, _, _, _⟩ := hok.2.1
  have n1_ := encNum_len (Int.toNat c.p.kind) (by omega)
  have n2_ := encNum_len (Int.toNat c.p.id) (by omega)
  have n3_ := encNum_len (Int.toNat c.p.work) (by omega)
  have n4_ := encNum_len (Int.toNat c.p.n) (by omega)
  have n5_ := encNum_len (Int.toNat (c.p.fs.length : Int)) (by omega)
  refine Calls.start Try.func30 rfl (by kernel_rfl) ?_
  refine WC.seq ?_
  refine WC.region ?_
  refine WL.new (d := 1) (T := 32) (Value.cells (GCmd.val c)) (k := fun b1 w2 g3 hb4 k5 => ?_)
  have z6 := Nat.le_trans K.size g3
  replace K := K.trans (k5.any _)
  refine WL.op (d := 2) (.string ⟨#[]⟩) (k := ?_)
  refine WL.nil ?_
  refine WX.seqN ?_
  refine WC.seq ?_
  refine WC.region ?_
  refine WL.op (d := 7) (.pointer (some ⟨b1, 0, none⟩)) (k := ?_)
  refine WL.load (v := .int .i64 c.p.kind) (ld1 (T := 3) (i := 0) hb4) (k := ?_)
  refine WL.callG (d := 9) (f := 47) (args := #[.int .i64 c.p.kind]) (qIntS_any c.p.kind (by omega) w2) (k := fun e_ w8 h_ => ⟨.string ⟨(encNum (Int.toNat c.p.kind)).toArray⟩, h_.1, ?_⟩)
  have k9 := h_.2; clear h_
  replace hb4 := k9.heap hb4 id
  replace K := K.trans (k9.any _)
  have ln7 := encNum_len (Int.toNat c.p.kind) (by omega)
  refine WL.op (d := 3) (.string ⟨(encNum (Int.toNat c.p.kind)).toArray⟩) (k := ?_)
  refine WL.nil ?_
  refine WX.seqN ?_
  refine WC.seq ?_
  refine WC.seq ?_
  refine WC.region ?_
  refine WL.op (d := 10) (.pointer (some ⟨b1, 0, none⟩)) (k := ?_)
  refine WL.load (v := .int .i64 c.p.kind) (ld1 (T := 3) (i := 0) hb4) (k := ?_)
  refine WL.nil ?_
  refine WX.seqN ?_
  refine WC.block ?_
  refine WC.seq ?_
  refine WC.region ?_
  refine WL.op (d := 13) (.bool (c.p.kind == 1)) (k := ?_)
  refine WL.op (d := 12) (.bool (c.p.kind == 1)) (k := ?_)
  refine WL.nil ?_
  refine WX.seqN ?_
  refine WC.cond (b := c.p.kind == 1) (ht := fun h10 => ?_) (hf := fun h10 => ?_)
  · have ph10 := eq_of_beq h10
    refine WC.seq ?_
    have h11 : decide (GOp.ok c.p.op) = true := decide_eq_true (hok.2.2.2 (by omega))
    have ph11 := of_decide_eq_true h11
    refine WC.region ?_
    refine WL.op (d := 15) (.pointer (some ⟨b1, 1, none⟩)) (k := ?_)
    refine WL.load (v := GOp.val c.p.op) (ldN (T := 29) (i := 1) (m := 10) (l := (Value.cells (GOp.val c.p.op)).toList) hb4) (k := ?_)
    refine WL.callG (d := 17) (f := 48) (args := #[GOp.val c.p.op]) (u13Bytes_ok c.p.op ph11 w8) (k := fun e_ w13 h_ => ⟨.tuple #[.string ⟨(GOp.enc c.p.op).toArray⟩, .int .i64 0], h_.1, ?_⟩)
    have k14 := h_.2; clear h_
    replace hb4 := k14.heap hb4 id
    replace K := K.trans (k14.any _)
    have ln12 := enc_len43 ph11
    refine WL.op (d := 14) (.tuple #[.string ⟨(GOp.enc c.p.op).toArray⟩, .int .i64 0]) (k := ?_)
    refine WL.op (d := 18) (.string ⟨(GOp.enc c.p.op).toArray⟩) (k := ?_)
    refine WL.op (d := 19) (.int .i64 0) (k := ?_)
    refine WL.op (d := 4) (.string ⟨(GOp.enc c.p.op).toArray⟩) (k := ?_)
    refine WL.op (d := 5) (.int .i64 0) (k := ?_)
    refine WL.nil ?_
    refine WX.seqN ?_
    refine WC.seq ?_
    refine WC.region ?_
    refine WL.op (d := 20) (.string ⟨(encNum (Int.toNat c.p.kind)).toArray⟩) (k := ?_)
    refine WL.op (d := 21) (.string ⟨(GOp.enc c.p.op).toArray⟩) (k := ?_)
    refine WL.callG (d := 22) (f := 49) (args := #[.string ⟨(GOp.enc c.p.op).toArray⟩]) (qTextS_any (GOp.enc c.p.op) (by omega) w13) (k := fun e_ w16 h_ => ⟨.string ⟨(encText (GOp.enc c.p.op)).toArray⟩, h_.1, ?_⟩)
    have k17 := h_.2; clear h_
    replace hb4 := k17.heap hb4 id
    replace K := K.trans (k17.any _)
    have ln15 := encText_len (l := (GOp.enc c.p.op)) (by omega)
    refine WL.bin (d := 23) (v := .string ⟨((encNum (Int.toNat c.p.kind)) ++ (encText (GOp.enc c.p.op))).toArray⟩) (cat_run (by (try simp only [List.length_append, List.length_cons, List.length_nil]); omega)) (k := ?_)
    refine WL.op (d := 2) (.string ⟨((encNum (Int.toNat c.p.kind)) ++ (encText (GOp.enc c.p.op))).toArray⟩) (k := ?_)
    refine WL.nil ?_
    refine WX.seqN ?_
    refine WC.ret ?_
    refine WX.blockR ?_
    refine WX.seqR ?_
    refine WX.ret (rs := [.tmp 2]) [.string ⟨((encNum (Int.toNat c.p.kind)) ++ (encText (GOp.enc c.p.op))).toArray⟩] (.string ⟨((encNum (Int.toNat c.p.kind)) ++ (encText (GOp.enc c.p.op))).toArray⟩) ⟨(by kernel_rfl), trivial⟩ (k := ?_)
    exact ⟨congrArg (fun l : List UInt8 => Ending.returned (Value.string ⟨l.toArray⟩)) (by simpa using enc_k1 ph10 []), K⟩
  · have ph10 := ne_of_beq_false h10
    refine WC.seq ?_
    refine WC.seq ?_
    refine WC.region ?_
    refine WL.op (d := 25) (.bool (c.p.kind == 2)) (k := ?_)
    refine WL.op (d := 24) (.bool (c.p.kind == 2)) (k := ?_)
    refine WL.nil ?_
    refine WX.seqN ?_
    refine WC.cond (b := c.p.kind == 2) (ht := fun h18 => ?_) (hf := fun h18 => ?_)
    · have ph18 := eq_of_beq h18
      refine WC.skip ?_
      refine WX.seqN ?_
      refine WC.rw (t := 24) (v := .bool true) (congrArg Value.bool h18) (k := ?_)
      refine WC.condT (k := ?_)
      refine WC.seq ?_
      refine WC.quiet (k := ?_)
      refine WQ.op (d := 27) (.string ⟨(encNum (Int.toNat c.p.kind)).toArray⟩) (k := ?_)
      refine WQ.op (d := 28) (.pointer (some ⟨b1, 11, none⟩)) (k := ?_)
      refine WQ.load (v := .int .i64 c.p.id) (fun w_ k_ => ld1 (T := 3) (i := 11) (k_.heap hb4 id)) (k := ?_)
      refine WQ.callG (d := 30) (f := 47) (args := #[.int .i64 c.p.id]) (v := .string ⟨(encNum (Int.toNat c.p.id)).toArray⟩) (fun w_ k_ => qIntS_any c.p.id (by omega) w_) addsR (k := ?_)
      have ln19 := encNum_len (Int.toNat c.p.id) (by omega)
      refine WQ.bin (d := 31) (v := .string ⟨((encNum (Int.toNat c.p.kind)) ++ (encNum (Int.toNat c.p.id))).toArray⟩) (fun _ => cat_run (by (try simp only [List.length_append, List.length_cons, List.length_nil]); omega)) (k := ?_)
      refine WQ.op (d := 32) (.pointer (some ⟨b1, 12, none⟩)) (k := ?_)
      refine WQ.load (v := .int .i64 c.p.work) (fun w_ k_ => ld1 (T := 2) (i := 12) (k_.heap hb4 id)) (k := ?_)
      refine WQ.opE (d := 34) (.int .u64 (IntKind.u64.wrap c.p.work)) (v := .int .u64 c.p.work) (congrArg (Value.int .u64) (IntWalk.u64_in _ (by omega))) (k := ?_)
      refine WQ.callG (d := 35) (f := 50) (args := #[.int .u64 c.p.work]) (v := .string ⟨(encNum (Int.toNat c.p.work)).toArray⟩) (fun w_ k_ => qNumS_any (Int.toNat c.p.work) c.p.work (by omega) (by omega) w_) addsR (k := ?_)
      have ln20 := encNum_len (Int.toNat c.p.work) (by omega)
      refine WQ.bin (d := 36) (v := .string ⟨((encNum (Int.toNat c.p.kind)) ++ (encNum (Int.toNat c.p.id)) ++ (encNum (Int.toNat c.p.work))).toArray⟩) (fun _ => cat_run (by (try simp only [List.length_append, List.length_cons, List.length_nil]); omega)) (k := ?_)
      refine WQ.op (d := 2) (.string ⟨((encNum (Int.toNat c.p.kind)) ++ (encNum (Int.toNat c.p.id)) ++ (encNum (Int.toNat c.p.work))).toArray⟩) (k := ?_)
      refine WQ.nilX (fun w21 k22 => ?_)
      replace hb4 := k22.heap hb4 id
      replace K := K.trans (k22.any _)
      refine WX.seqN ?_
      refine WC.ret ?_
      refine WX.blockR ?_
      refine WX.seqR ?_
      refine WX.ret (rs := [.tmp 2]) [.string ⟨((encNum (Int.toNat c.p.kind)) ++ (encNum (Int.toNat c.p.id)) ++ (encNum (Int.toNat c.p.work))).toArray⟩] (.string ⟨((encNum (Int.toNat c.p.kind)) ++ (encNum (Int.toNat c.p.id)) ++ (encNum (Int.toNat c.p.work))).toArray⟩) ⟨(by kernel_rfl), trivial⟩ (k := ?_)
      exact ⟨congrArg (fun l : List UInt8 => Ending.returned (Value.string ⟨l.toArray⟩)) (by simpa using enc_k2 ph18 []), K⟩
    · have ph18 := ne_of_beq_false h18
      refine WC.region ?_
      refine WL.op (d := 26) (.bool (c.p.kind == 3)) (k := ?_)
      refine WL.op (d := 24) (.bool (c.p.kind == 3)) (k := ?_)
      refine WL.nil ?_
      refine WX.seqN ?_
      refine WC.cond (b := c.p.kind == 3) (ht := fun h23 => ?_) (hf := fun h23 => ?_)
      · have ph23 := eq_of_beq h23
        refine WC.seq ?_
        refine WC.quiet (k := ?_)
        refine WQ.op (d := 27) (.string ⟨(encNum (Int.toNat c.p.kind)).toArray⟩) (k := ?_)
        refine WQ.op (d := 28) (.pointer (some ⟨b1, 11, none⟩)) (k := ?_)
        refine WQ.load (v := .int .i64 c.p.id) (fun w_ k_ => ld1 (T := 3) (i := 11) (k_.heap hb4 id)) (k := ?_)
        refine WQ.callG (d := 30) (f := 47) (args := #[.int .i64 c.p.id]) (v := .string ⟨(encNum (Int.toNat c.p.id)).toArray⟩) (fun w_ k_ => qIntS_any c.p.id (by omega) w_) addsR (k := ?_)
        have ln24 := encNum_len (Int.toNat c.p.id) (by omega)
        refine WQ.bin (d := 31) (v := .string ⟨((encNum (Int.toNat c.p.kind)) ++ (encNum (Int.toNat c.p.id))).toArray⟩) (fun _ => cat_run (by (try simp only [List.length_append, List.length_cons, List.length_nil]); omega)) (k := ?_)
        refine WQ.op (d := 32) (.pointer (some ⟨b1, 12, none⟩)) (k := ?_)
        refine WQ.load (v := .int .i64 c.p.work) (fun w_ k_ => ld1 (T := 2) (i := 12) (k_.heap hb4 id)) (k := ?_)
        refine WQ.opE (d := 34) (.int .u64 (IntKind.u64.wrap c.p.work)) (v := .int .u64 c.p.work) (congrArg (Value.int .u64) (IntWalk.u64_in _ (by omega))) (k := ?_)
        refine WQ.callG (d := 35) (f := 50) (args := #[.int .u64 c.p.work]) (v := .string ⟨(encNum (Int.toNat c.p.work)).toArray⟩) (fun w_ k_ => qNumS_any (Int.toNat c.p.work) c.p.work (by omega) (by omega) w_) addsR (k := ?_)
        have ln25 := encNum_len (Int.toNat c.p.work) (by omega)
        refine WQ.bin (d := 36) (v := .string ⟨((encNum (Int.toNat c.p.kind)) ++ (encNum (Int.toNat c.p.id)) ++ (encNum (Int.toNat c.p.work))).toArray⟩) (fun _ => cat_run (by (try simp only [List.length_append, List.length_cons, List.length_nil]); omega)) (k := ?_)
        refine WQ.op (d := 2) (.string ⟨((encNum (Int.toNat c.p.kind)) ++ (encNum (Int.toNat c.p.id)) ++ (encNum (Int.toNat c.p.work))).toArray⟩) (k := ?_)
        refine WQ.nilX (fun w26 k27 => ?_)
        replace hb4 := k27.heap hb4 id
        replace K := K.trans (k27.any _)
        refine WX.seqN ?_
        refine WC.ret ?_
        refine WX.blockR ?_
        refine WX.seqR ?_
        refine WX.ret (rs := [.tmp 2]) [.string ⟨((encNum (Int.toNat c.p.kind)) ++ (encNum (Int.toNat c.p.id)) ++ (encNum (Int.toNat c.p.work))).toArray⟩] (.string ⟨((encNum (Int.toNat c.p.kind)) ++ (encNum (Int.toNat c.p.id)) ++ (encNum (Int.toNat c.p.work))).toArray⟩) ⟨(by kernel_rfl), trivial⟩ (k := ?_)
        exact ⟨congrArg (fun l : List UInt8 => Ending.returned (Value.string ⟨l.toArray⟩)) (by simpa using enc_k3 ph23 []), K⟩
      · have ph23 := ne_of_beq_false h23
        refine WC.seq ?_
        refine WC.seq ?_
        refine WC.region ?_
        refine WL.op (d := 38) (.bool (c.p.kind == 4)) (k := ?_)
        refine WL.op (d := 37) (.bool (c.p.kind == 4)) (k := ?_)
        refine WL.nil ?_
        refine WX.seqN ?_
        refine WC.cond (b := c.p.kind == 4) (ht := fun h28 => ?_) (hf := fun h28 => ?_)
        · have ph28 := eq_of_beq h28
          refine WC.skip ?_
          refine WX.seqN ?_
          refine WC.rw (t := 37) (v := .bool true) (congrArg Value.bool h28) (k := ?_)
          refine WC.condT (k := ?_)
          refine WC.seq ?_
          refine WC.region ?_
          refine WL.op (d := 40) (.string ⟨(encNum (Int.toNat c.p.kind)).toArray⟩) (k := ?_)
          refine WL.op (d := 41) (.pointer (some ⟨b1, 13, none⟩)) (k := ?_)
          refine WL.load (v := .int .i64 c.p.n) (ld1 (T := 3) (i := 13) hb4) (k := ?_)
          refine WL.callG (d := 43) (f := 47) (args := #[.int .i64 c.p.n]) (qIntS_any c.p.n (by omega) w8) (k := fun e_ w30 h_ => ⟨.string ⟨(encNum (Int.toNat c.p.n)).toArray⟩, h_.1, ?_⟩)
          have k31 := h_.2; clear h_
          replace hb4 := k31.heap hb4 id
          replace K := K.trans (k31.any _)
          have ln29 := encNum_len (Int.toNat c.p.n) (by omega)
          refine WL.bin (d := 44) (v := .string ⟨((encNum (Int.toNat c.p.kind)) ++ (encNum (Int.toNat c.p.n))).toArray⟩) (cat_run (by (try simp only [List.length_append, List.length_cons, List.length_nil]); omega)) (k := ?_)
          refine WL.op (d := 2) (.string ⟨((encNum (Int.toNat c.p.kind)) ++ (encNum (Int.toNat c.p.n))).toArray⟩) (k := ?_)
          refine WL.nil ?_
          refine WX.seqN ?_
          refine WC.ret ?_
          refine WX.blockR ?_
          refine WX.seqR ?_
          refine WX.ret (rs := [.tmp 2]) [.string ⟨((encNum (Int.toNat c.p.kind)) ++ (encNum (Int.toNat c.p.n))).toArray⟩] (.string ⟨((encNum (Int.toNat c.p.kind)) ++ (encNum (Int.toNat c.p.n))).toArray⟩) ⟨(by kernel_rfl), trivial⟩ (k := ?_)
          exact ⟨congrArg (fun l : List UInt8 => Ending.returned (Value.string ⟨l.toArray⟩)) (by simpa using enc_k4 ph28 []), K⟩
        · have ph28 := ne_of_beq_false h28
          refine WC.region ?_
          refine WL.op (d := 39) (.bool (c.p.kind == 7)) (k := ?_)
          refine WL.op (d := 37) (.bool (c.p.kind == 7)) (k := ?_)
          refine WL.nil ?_
          refine WX.seqN ?_
          refine WC.cond (b := c.p.kind == 7) (ht := fun h32 => ?_) (hf := fun h32 => ?_)
          · have ph32 := eq_of_beq h32
            refine WC.seq ?_
            refine WC.region ?_
            refine WL.op (d := 40) (.string ⟨(encNum (Int.toNat c.p.kind)).toArray⟩) (k := ?_)
            refine WL.op (d := 41) (.pointer (some ⟨b1, 13, none⟩)) (k := ?_)
            refine WL.load (v := .int .i64 c.p.n) (ld1 (T := 3) (i := 13) hb4) (k := ?_)
            refine WL.callG (d := 43) (f := 47) (args := #[.int .i64 c.p.n]) (qIntS_any c.p.n (by omega) w8) (k := fun e_ w34 h_ => ⟨.string ⟨(encNum (Int.toNat c.p.n)).toArray⟩, h_.1, ?_⟩)
            have k35 := h_.2; clear h_
            replace hb4 := k35.heap hb4 id
            replace K := K.trans (k35.any _)
            have ln33 := encNum_len (Int.toNat c.p.n) (by omega)
            refine WL.bin (d := 44) (v := .string ⟨((encNum (Int.toNat c.p.kind)) ++ (encNum (Int.toNat c.p.n))).toArray⟩) (cat_run (by (try simp only [List.length_append, List.length_cons, List.length_nil]); omega)) (k := ?_)
            refine WL.op (d := 2) (.string ⟨((encNum (Int.toNat c.p.kind)) ++ (encNum (Int.toNat c.p.n))).toArray⟩) (k := ?_)
            refine WL.nil ?_
            refine WX.seqN ?_
            refine WC.ret ?_
            refine WX.blockR ?_
            refine WX.seqR ?_
            refine WX.ret (rs := [.tmp 2]) [.string ⟨((encNum (Int.toNat c.p.kind)) ++ (encNum (Int.toNat c.p.n))).toArray⟩] (.string ⟨((encNum (Int.toNat c.p.kind)) ++ (encNum (Int.toNat c.p.n))).toArray⟩) ⟨(by kernel_rfl), trivial⟩ (k := ?_)
            exact ⟨congrArg (fun l : List UInt8 => Ending.returned (Value.string ⟨l.toArray⟩)) (by simpa using enc_k7 ph32 []), K⟩
          · have ph32 := ne_of_beq_false h32
            refine WC.seq ?_
            refine WC.region ?_
            refine WL.op (d := 46) (.bool (c.p.kind == 5)) (k := ?_)
            refine WL.op (d := 45) (.bool (c.p.kind == 5)) (k := ?_)
            refine WL.nil ?_
            refine WX.seqN ?_
            refine WC.cond (b := c.p.kind == 5) (ht := fun h36 => ?_) (hf := fun h36 => ?_)
            · have ph36 := eq_of_beq h36
              refine WC.seq ?_
              refine WC.region ?_
              refine WL.op (d := 47) (.string ⟨(encNum (Int.toNat c.p.kind)).toArray⟩) (k := ?_)
              refine WL.op (d := 48) (.pointer (some ⟨b1, 11, none⟩)) (k := ?_)
              refine WL.load (v := .int .i64 c.p.id) (ld1 (T := 3) (i := 11) hb4) (k := ?_)
              refine WL.callG (d := 50) (f := 47) (args := #[.int .i64 c.p.id]) (qIntS_any c.p.id (by omega) w8) (k := fun e_ w38 h_ => ⟨.string ⟨(encNum (Int.toNat c.p.id)).toArray⟩, h_.1, ?_⟩)
              have k39 := h_.2; clear h_
              replace hb4 := k39.heap hb4 id
              replace K := K.trans (k39.any _)
              have ln37 := encNum_len (Int.toNat c.p.id) (by omega)
              refine WL.bin (d := 51) (v := .string ⟨((encNum (Int.toNat c.p.kind)) ++ (encNum (Int.toNat c.p.id))).toArray⟩) (cat_run (by (try simp only [List.length_append, List.length_cons, List.length_nil]); omega)) (k := ?_)
              refine WL.op (d := 2) (.string ⟨((encNum (Int.toNat c.p.kind)) ++ (encNum (Int.toNat c.p.id))).toArray⟩) (k := ?_)
              refine WL.nil ?_
              refine WX.seqN ?_
              refine WC.ret ?_
              refine WX.blockR ?_
              refine WX.seqR ?_
              refine WX.ret (rs := [.tmp 2]) [.string ⟨((encNum (Int.toNat c.p.kind)) ++ (encNum (Int.toNat c.p.id))).toArray⟩] (.string ⟨((encNum (Int.toNat c.p.kind)) ++ (encNum (Int.toNat c.p.id))).toArray⟩) ⟨(by kernel_rfl), trivial⟩ (k := ?_)
              exact ⟨congrArg (fun l : List UInt8 => Ending.returned (Value.string ⟨l.toArray⟩)) (by simpa using enc_k5 ph36 []), K⟩
            · have ph36 := ne_of_beq_false h36
              refine WC.seq ?_
              refine WC.region ?_
              refine WL.op (d := 53) (.bool (c.p.kind == 8)) (k := ?_)
              refine WL.op (d := 52) (.bool (c.p.kind == 8)) (k := ?_)
              refine WL.nil ?_
              refine WX.seqN ?_
              refine WC.cond (b := c.p.kind == 8) (ht := fun h40 => ?_) (hf := fun h40 => ?_)
              · have ph40 := eq_of_beq h40
                refine WC.seq ?_
                refine WC.region ?_
                refine WL.op (d := 54) (.string ⟨(encNum (Int.toNat c.p.kind)).toArray⟩) (k := ?_)
                refine WL.op (d := 55) (.pointer (some ⟨b1, 14, none⟩)) (k := ?_)
                refine WL.load (v := .slice c.A c.p.fs.length c.cap) (ld1 (T := 30) (i := 14) hb4) (k := ?_)
                refine WL.op (d := 57) (.int .i64 (c.p.fs.length : Int)) (k := ?_)
                refine WL.callG (d := 58) (f := 47) (args := #[.int .i64 (c.p.fs.length : Int)]) (qIntS_any (c.p.fs.length : Int) (by omega) w8) (k := fun e_ w42 h_ => ⟨.string ⟨(encNum (Int.toNat (c.p.fs.length : Int))).toArray⟩, h_.1, ?_⟩)
                have k43 := h_.2; clear h_
                replace hb4 := k43.heap hb4 id
                replace K := K.trans (k43.any _)
                have ln41 := encNum_len (Int.toNat (c.p.fs.length : Int)) (by omega)
                refine WL.bin (d := 59) (v := .string ⟨((encNum (Int.toNat c.p.kind)) ++ (encNum (Int.toNat (c.p.fs.length : Int)))).toArray⟩) (cat_run (by (try simp only [List.length_append, List.length_cons, List.length_nil]); omega)) (k := ?_)
                refine WL.op (d := 3) (.string ⟨((encNum (Int.toNat c.p.kind)) ++ (encNum (Int.toNat (c.p.fs.length : Int)))).toArray⟩) (k := ?_)
                refine WL.nil ?_
                refine WX.seqN ?_
                refine WC.seq ?_
                refine WC.region ?_
                refine WL.op (d := 6) (.int .i64 0) (k := ?_)
                refine WL.nil ?_
                refine WX.seqN ?_
                refine WC.block ?_
                refine WC.rw (t := 3) (v := .string ⟨(encNum (Int.toNat c.p.kind) ++ encNum (Int.toNat (c.p.fs.length : Int)) ++ fsU c.p.fs 0).toArray⟩) (congrArg (fun l : List UInt8 => Value.string ⟨l.toArray⟩) (show (encNum (Int.toNat c.p.kind)) ++ (encNum (Int.toNat (c.p.fs.length : Int))) = encNum (Int.toNat c.p.kind) ++ encNum (Int.toNat (c.p.fs.length : Int)) ++ fsU c.p.fs 0 from by rw [fsU_zero]; simp)) (k := ?_)
                refine WC.loop (ι := Int) (fun (i : Int) => [(0, GCmd.val c), (1, .pointer (some ⟨b1, 0, none⟩)), (2, .string ⟨#[]⟩), (7, .pointer (some ⟨b1, 0, none⟩)), (8, .int .i64 c.p.kind), (9, .string ⟨(encNum (Int.toNat c.p.kind)).toArray⟩), (10, .pointer (some ⟨b1, 0, none⟩)), (11, .int .i64 c.p.kind), (13, .bool (c.p.kind == 1)), (12, .bool (c.p.kind == 1)), (25, .bool (c.p.kind == 2)), (24, .bool (c.p.kind == 3)), (26, .bool (c.p.kind == 3)), (38, .bool (c.p.kind == 4)), (37, .bool (c.p.kind == 7)), (39, .bool (c.p.kind == 7)), (46, .bool (c.p.kind == 5)), (45, .bool (c.p.kind == 5)), (53, .bool (c.p.kind == 8)), (52, .bool (c.p.kind == 8)), (54, .string ⟨(encNum (Int.toNat c.p.kind)).toArray⟩), (55, .pointer (some ⟨b1, 14, none⟩)), (56, .slice c.A c.p.fs.length c.cap), (57, .int .i64 (c.p.fs.length : Int)), (58, .string ⟨(encNum (Int.toNat (c.p.fs.length : Int))).toArray⟩), (59, .string ⟨((encNum (Int.toNat c.p.kind)) ++ (encNum (Int.toNat (c.p.fs.length : Int)))).toArray⟩), (6, .int .i64 i), (3, .string ⟨(encNum (Int.toNat c.p.kind) ++ encNum (Int.toNat (c.p.fs.length : Int)) ++ fsU c.p.fs i).toArray⟩)]) (fun (i : Int) (w_ : World) => (Keeps (fun _ => False) w w_) ∧ (w_.heap[b1]? = some (.cells (Value.cells (GCmd.val c)) 32 (0, 0))) ∧ (0 ≤ i) ∧ (i ≤ c.p.fs.length)) (fun (i : Int) => (c.p.fs.length - i).toNat) 0 ⟨(by kernel_rfl), (by kernel_rfl), (by kernel_rfl), (by kernel_rfl), (by kernel_rfl), (by kernel_rfl), (by kernel_rfl), (by kernel_rfl), (by kernel_rfl), (by kernel_rfl), (by kernel_rfl), (by kernel_rfl), (by kernel_rfl), (by kernel_rfl), (by kernel_rfl), (by kernel_rfl), (by kernel_rfl), (by kernel_rfl), (by kernel_rfl), (by kernel_rfl), (by kernel_rfl), (by kernel_rfl), (by kernel_rfl), (by kernel_rfl), (by kernel_rfl), (by kernel_rfl), (by kernel_rfl), (by kernel_rfl), trivial⟩ ⟨K, hb4, Int.le_refl 0, (by omega)⟩ ?_
                rintro i w44 ⟨K, hb45, i0, i1⟩
                have lu_ := fsU_len hok.2.2.1 i
                refine WC.seq ?_
                refine WC.seq ?_
                refine WC.region ?_
                refine WL.op (d := 60) (.int .i64 i) (k := ?_)
                refine WL.op (d := 61) (.pointer (some ⟨b1, 14, none⟩)) (k := ?_)
                refine WL.load (v := .slice c.A c.p.fs.length c.cap) (ld1 (T := 30) (i := 14) hb45) (k := ?_)
                refine WL.op (d := 63) (.int .i64 (c.p.fs.length : Int)) (k := ?_)
                refine WL.op (d := 64) (.bool (decide (i < (c.p.fs.length : Int)))) (k := ?_)
                refine WL.nil ?_
                refine WX.seqN ?_
                refine WC.cond (b := decide (i < (c.p.fs.length : Int))) (ht := fun h46 => ?_) (hf := fun h46 => ?_)
                · have ph46 := of_decide_eq_true h46
                  refine WC.skip ?_
                  refine WX.seqN ?_
                  refine WC.seq ?_
                  refine WC.block ?_
                  refine WC.quiet (k := ?_)
                  refine WQ.op (d := 67) (.string ⟨(encNum (Int.toNat c.p.kind) ++ encNum (Int.toNat (c.p.fs.length : Int)) ++ fsU c.p.fs i).toArray⟩) (k := ?_)
                  refine WQ.op (d := 68) (.pointer (some ⟨b1, 14, none⟩)) (k := ?_)
                  refine WQ.load (v := .slice c.A c.p.fs.length c.cap) (fun w_ k_ => ld1 (T := 30) (i := 14) (k_.heap hb45 id)) (k := ?_)
                  refine WQ.op (d := 70) (.int .i64 i) (k := ?_)
                  obtain ⟨b47, o48, r49, hr50, hA51, he52⟩ := SlAt.at hc (i := i) (by omega) (by omega)
                  refine WQ.rw (t := 69) (v := .slice (some ⟨b47, o48, none⟩) c.p.fs.length c.cap) (congrArg (fun a => Value.slice a c.p.fs.length c.cap) hA51) (k := ?_)
                  obtain ⟨_, _, _, _⟩ := hok.2.2.1 _ (List.mem_of_getElem? hr50)
                  refine WQ.idx (T := 30) (E := 50) (m := 2) (b := b47) (o := o48) (len := c.p.fs.length) (cap := c.cap) (i := i) (kk := .i64) (d := 71) (by omega) (by omega) (k := ?_)
                  refine WQ.rw (t := 69) (v := .slice c.A c.p.fs.length c.cap) (congrArg (fun a => Value.slice a c.p.fs.length c.cap) (Eq.symm hA51)) (k := ?_)
                  refine WQ.op (d := 72) (.pointer (some ⟨b47, o48 + (i).toNat * 2, none⟩)) (k := ?_)
                  refine WQ.load (v := .int .i64 r49.kind) (fun w_ k_ => ((he52.adds K).adds k_).ld0 (T := 3)) (k := ?_)
                  refine WQ.callG (d := 74) (f := 47) (args := #[.int .i64 r49.kind]) (v := .string ⟨(encNum (Int.toNat r49.kind)).toArray⟩) (fun w_ k_ => qIntS_any r49.kind (by omega) w_) addsR (k := ?_)
                  have ln53 := encNum_len (Int.toNat r49.kind) (by omega)
                  refine WQ.bin (d := 75) (v := .string ⟨(encNum (Int.toNat c.p.kind) ++ encNum (Int.toNat (c.p.fs.length : Int)) ++ fsU c.p.fs i ++ (encNum (Int.toNat r49.kind))).toArray⟩) (fun _ => cat_run (by (try simp only [List.length_append, List.length_cons, List.length_nil]); omega)) (k := ?_)
                  refine WQ.op (d := 76) (.pointer (some ⟨b1, 14, none⟩)) (k := ?_)
                  refine WQ.load (v := .slice c.A c.p.fs.length c.cap) (fun w_ k_ => ld1 (T := 30) (i := 14) (k_.heap hb45 id)) (k := ?_)
                  refine WQ.op (d := 78) (.int .i64 i) (k := ?_)
                  obtain ⟨b54, o55, r56, hr57, hA58, he59⟩ := SlAt.at hc (i := i) (by omega) (by omega)
                  refine WQ.rw (t := 77) (v := .slice (some ⟨b54, o55, none⟩) c.p.fs.length c.cap) (congrArg (fun a => Value.slice a c.p.fs.length c.cap) hA58) (k := ?_)
                  obtain ⟨_, _, _, _⟩ := hok.2.2.1 _ (List.mem_of_getElem? hr57)
                  refine WQ.idx (T := 30) (E := 50) (m := 2) (b := b54) (o := o55) (len := c.p.fs.length) (cap := c.cap) (i := i) (kk := .i64) (d := 79) (by omega) (by omega) (k := ?_)
                  refine WQ.rw (t := 77) (v := .slice c.A c.p.fs.length c.cap) (congrArg (fun a => Value.slice a c.p.fs.length c.cap) (Eq.symm hA58)) (k := ?_)
                  refine WQ.op (d := 80) (.pointer (some ⟨b54, o55 + (i).toNat * 2 + 1, none⟩)) (k := ?_)
                  refine WQ.load (v := .int .i64 r56.at_) (fun w_ k_ => ((he59.adds K).adds k_).ldF (T := 3) (off := 1)) (k := ?_)
                  refine WQ.callG (d := 82) (f := 47) (args := #[.int .i64 r56.at_]) (v := .string ⟨(encNum (Int.toNat r56.at_)).toArray⟩) (fun w_ k_ => qIntS_any r56.at_ (by omega) w_) addsR (k := ?_)
                  have ln60 := encNum_len (Int.toNat r56.at_) (by omega)
                  refine WQ.bin (d := 83) (v := .string ⟨(encNum (Int.toNat c.p.kind) ++ encNum (Int.toNat (c.p.fs.length : Int)) ++ fsU c.p.fs i ++ (encNum (Int.toNat r49.kind)) ++ (encNum (Int.toNat r56.at_))).toArray⟩) (fun _ => cat_run (by (try simp only [List.length_append, List.length_cons, List.length_nil]); omega)) (k := ?_)
                  refine WQ.op (d := 3) (.string ⟨(encNum (Int.toNat c.p.kind) ++ encNum (Int.toNat (c.p.fs.length : Int)) ++ fsU c.p.fs i ++ (encNum (Int.toNat r49.kind)) ++ (encNum (Int.toNat r56.at_))).toArray⟩) (k := ?_)
                  refine WQ.nilX (fun w61 k62 => ?_)
                  replace hb45 := k62.heap hb45 id
                  replace K := K.trans (k62.any _)
                  refine WX.blockN ?_
                  refine WX.seqN ?_
                  refine WC.region ?_
                  refine WL.op (d := 65) (.int .i64 i) (k := ?_)
                  refine WL.opE (d := 66) (.int .i64 (IntKind.i64.wrap (i + 1))) (v := .int .i64 (i + 1)) (congrArg (Value.int .i64) (IntWalk.i64_in _ (by omega))) (k := ?_)
                  refine WL.op (d := 6) (.int .i64 (i + 1)) (k := ?_)
                  refine WL.nil ?_
                  obtain rfl : r56 = r49 := Option.some.inj (hr57.symm.trans hr50)
                  refine WX.rw (t := 3) (v := .string ⟨(encNum (Int.toNat c.p.kind) ++ encNum (Int.toNat (c.p.fs.length : Int)) ++ fsU c.p.fs (i + 1)).toArray⟩) (congrArg (fun l : List UInt8 => Value.string ⟨l.toArray⟩) (fsU_succ i0 hr50 _)) (k := ?_)
                  refine WX.round (i + 1) (by show (c.p.fs.length - (i + 1)).toNat < (c.p.fs.length - i).toNat; omega) ⟨(by kernel_rfl), (by kernel_rfl), (by kernel_rfl), (by kernel_rfl), (by kernel_rfl), (by kernel_rfl), (by kernel_rfl), (by kernel_rfl), (by kernel_rfl), (by kernel_rfl), (by kernel_rfl), (by kernel_rfl), (by kernel_rfl), (by kernel_rfl), (by kernel_rfl), (by kernel_rfl), (by kernel_rfl), (by kernel_rfl), (by kernel_rfl), (by kernel_rfl), (by kernel_rfl), (by kernel_rfl), (by kernel_rfl), (by kernel_rfl), (by kernel_rfl), (by kernel_rfl), (by kernel_rfl), (by kernel_rfl), trivial⟩ ⟨K, hb45, (by omega), (by omega)⟩
                · have ph46 := of_decide_eq_false h46
                  refine WC.exit ?_
                  refine WX.seqE ?_
                  refine WX.seqE ?_
                  refine WX.blockE ?_
                  refine WX.blockN ?_
                  refine WX.seqN ?_
                  refine WC.seq ?_
                  refine WC.region ?_
                  refine WL.op (d := 84) (.string ⟨(encNum (Int.toNat c.p.kind) ++ encNum (Int.toNat (c.p.fs.length : Int)) ++ fsU c.p.fs i).toArray⟩) (k := ?_)
                  refine WL.op (d := 2) (.string ⟨(encNum (Int.toNat c.p.kind) ++ encNum (Int.toNat (c.p.fs.length : Int)) ++ fsU c.p.fs i).toArray⟩) (k := ?_)
                  refine WL.nil ?_
                  refine WX.seqN ?_
                  refine WC.ret ?_
                  refine WX.ret (rs := [.tmp 2]) [.string ⟨(encNum (Int.toNat c.p.kind) ++ encNum (Int.toNat (c.p.fs.length : Int)) ++ fsU c.p.fs i).toArray⟩] (.string ⟨(encNum (Int.toNat c.p.kind) ++ encNum (Int.toNat (c.p.fs.length : Int)) ++ fsU c.p.fs i).toArray⟩) ⟨(by kernel_rfl), trivial⟩ (k := ?_)
                  rw [fsU_end (by omega)]
                  exact ⟨congrArg (fun l : List UInt8 => Ending.returned (Value.string ⟨l.toArray⟩)) (by simpa using enc_k8 ph40 []), K⟩
              · have ph40 := ne_of_beq_false h40
                refine WC.skip ?_
                refine WX.blockN ?_
                refine WX.seqN ?_
                refine WC.seq ?_
                refine WC.region ?_
                refine WL.op (d := 84) (.string ⟨(encNum (Int.toNat c.p.kind)).toArray⟩) (k := ?_)
                refine WL.op (d := 2) (.string ⟨(encNum (Int.toNat c.p.kind)).toArray⟩) (k := ?_)
                refine WL.nil ?_
                refine WX.seqN ?_
                refine WC.ret ?_
                refine WX.ret (rs := [.tmp 2]) [.string ⟨(encNum (Int.toNat c.p.kind)).toArray⟩] (.string ⟨(encNum (Int.toNat c.p.kind)).toArray⟩) ⟨(by kernel_rfl), trivial⟩ (k := ?_)
                exact ⟨congrArg (fun l : List UInt8 => Ending.returned (Value.string ⟨l.toArray⟩)) (by simpa using enc_k6 ph10 ph18 ph23 ph28 ph32 ph36 ph40 []), K⟩

set_option maxRecDepth 100000 in
set_option maxHeartbeats 4000000 in
theorem u23Bytes_c {A : Option Addr} {cp : Nat} {xs : List GCmd} {w : World} (hA : SlAt cmdC 15 32 A xs w) (hF : Fts 1000000000 xs w) (hn : xs.length ≤ 10000) : Calls Try.prog 14 #[.slice A xs.length cp] w fun e w' => e = .returned (.string ⟨(bytesC (xs.map GCmd.p)).toArray⟩) ∧ Adds w w' := by
  have K : Keeps (fun _ => False) w w := Keeps.refl _ w
  refine Calls.start Try.func14 rfl (by kernel_rfl) ?_
  refine WC.seq ?_
  refine WC.region ?_
  refine WL.op (d := 2) (.string ⟨#[]⟩) (k := ?_)
  refine WL.nil ?_
  refine WX.seqN ?_
  refine WC.seq ?_
  refine WC.region ?_
  refine WL.op (d := 3) (.string ⟨#[]⟩) (k := ?_)
  refine WL.nil ?_
  refine WX.seqN ?_
  refine WC.seq ?_
  refine WC.seq ?_
  refine WC.region ?_
  refine WL.op (d := 4) (.int .i64 0) (k := ?_)
  refine WL.nil ?_
  refine WX.seqN ?_
  refine WC.block ?_
  refine WC.rw (t := 3) (v := .string ⟨(csU xs 0).toArray⟩) (congrArg (fun l : List UInt8 => Value.string ⟨l.toArray⟩) (show [] = csU xs 0 from (csU_zero xs).symm)) (k := ?_)
  refine WC.loop (ι := Int) (fun (i : Int) => [(0, .slice A xs.length cp), (4, .int .i64 i), (3, .string ⟨(csU xs i).toArray⟩)]) (fun (i : Int) (w_ : World) => (Keeps (fun _ => False) w w_) ∧ (0 ≤ i) ∧ (i ≤ xs.length) ∧ (upC xs i)) (fun (i : Int) => (xs.length - i).toNat) 0 ⟨(by kernel_rfl), (by kernel_rfl), (by kernel_rfl), trivial⟩ ⟨K, Int.le_refl 0, (by omega), upC_zero _⟩ ?_
  rintro i w1 ⟨K, i0, i1, iu⟩
  have lu_ := csU_len iu
  refine WC.seq ?_
  refine WC.seq ?_
  refine WC.region ?_
  refine WL.op (d := 6) (.int .i64 i) (k := ?_)
  refine WL.op (d := 7) (.slice A xs.length cp) (k := ?_)
  refine WL.op (d := 8) (.int .i64 (xs.length : Int)) (k := ?_)
  refine WL.op (d := 9) (.bool (decide (i < (xs.length : Int)))) (k := ?_)
  refine WL.nil ?_
  refine WX.seqN ?_
  refine WC.cond (b := decide (i < (xs.length : Int))) (ht := fun h2 => ?_) (hf := fun h2 => ?_)
  · have ph2 := of_decide_eq_true h2
    refine WC.skip ?_
    refine WX.seqN ?_
    refine WC.seq ?_
    refine WC.block ?_
    refine WC.seq ?_
    refine WC.region ?_
    refine WL.op (d := 12) (.slice A xs.length cp) (k := ?_)
    refine WL.op (d := 13) (.int .i64 i) (k := ?_)
    obtain ⟨b3, o4, r5, hr6, hA7, he8⟩ := SlAt.at hA (i := i) (by omega) (by omega)
    refine WL.rw (t := 12) (v := .slice (some ⟨b3, o4, none⟩) xs.length cp) (congrArg (fun a => Value.slice a xs.length cp) hA7) (k := ?_)
    obtain ⟨hs9, hc10, hl11⟩ := fts_mem hF hr6
    refine WL.idx (T := 22) (E := 32) (m := 15) (b := b3) (o := o4) (len := xs.length) (cap := cp) (i := i) (kk := .i64) (d := 14) (by omega) (by omega) (k := ?_)
    refine WL.rw (t := 12) (v := .slice A xs.length cp) (congrArg (fun a => Value.slice a xs.length cp) (Eq.symm hA7)) (k := ?_)
    refine WL.load (v := GCmd.val r5) ((he8.adds K).ldW (T := 32)) (k := ?_)
    refine WL.callG (d := 16) (f := 10) (args := #[GCmd.val r5]) (u23Check_c (c := r5) (hs9.adds K) (by first | omega | simp)) (k := fun e_ w12 h_ => ⟨.bool (cokB r5.p), h_.1, ?_⟩)
    have k13 := h_.2; clear h_
    replace K := K.trans (k13.any _)
    refine WL.op (d := 5) (.bool (cokB r5.p)) (k := ?_)
    refine WL.nil ?_
    refine WX.seqN ?_
    refine WC.seq ?_
    refine WC.seq ?_
    refine WC.region ?_
    refine WL.op (d := 17) (.bool (cokB r5.p)) (k := ?_)
    refine WL.op (d := 18) (.bool (!(cokB r5.p))) (k := ?_)
    refine WL.nil ?_
    refine WX.seqN ?_
    refine WC.cond (b := !(cokB r5.p)) (ht := fun h14 => ?_) (hf := fun h14 => ?_)
    · have h15 : (cokB r5.p) = false := Bool.not_inj (y := false) h14
      have ph15 := cok_f h15
      refine WC.seq ?_
      refine WC.region ?_
      refine WL.op (d := 2) (.string ⟨#[]⟩) (k := ?_)
      refine WL.nil ?_
      refine WX.seqN ?_
      refine WC.ret ?_
      refine WX.seqR ?_
      refine WX.blockR ?_
      refine WX.seqR ?_
      refine WX.seqR ?_
      refine WX.blockR ?_
      refine WX.seqR ?_
      refine WX.ret (rs := [.tmp 2]) [.string ⟨#[]⟩] (.string ⟨#[]⟩) ⟨(by kernel_rfl), trivial⟩ (k := ?_)
      exact ⟨by rw [bytesC_no hr6 ph15], K⟩
    · have h16 : (cokB r5.p) = true := Bool.not_inj (y := true) h14
      have ph16 := cok_t h16
      refine WC.skip ?_
      refine WX.seqN ?_
      refine WC.region ?_
      refine WL.op (d := 19) (.string ⟨(csU xs i).toArray⟩) (k := ?_)
      refine WL.op (d := 20) (.slice A xs.length cp) (k := ?_)
      refine WL.op (d := 21) (.int .i64 i) (k := ?_)
      obtain ⟨b17, o18, r19, hr20, hA21, he22⟩ := SlAt.at hA (i := i) (by omega) (by omega)
      refine WL.rw (t := 20) (v := .slice (some ⟨b17, o18, none⟩) xs.length cp) (congrArg (fun a => Value.slice a xs.length cp) hA21) (k := ?_)
      obtain ⟨hs23, hc24, hl25⟩ := fts_mem hF hr20
      refine WL.idx (T := 22) (E := 32) (m := 15) (b := b17) (o := o18) (len := xs.length) (cap := cp) (i := i) (kk := .i64) (d := 22) (by omega) (by omega) (k := ?_)
      refine WL.rw (t := 20) (v := .slice A xs.length cp) (congrArg (fun a => Value.slice a xs.length cp) (Eq.symm hA21)) (k := ?_)
      refine WL.load (v := GCmd.val r19) ((he22.adds K).ldW (T := 32)) (k := ?_)
      refine WL.callG (d := 24) (f := 30) (args := #[GCmd.val r19]) (u23one_c (c := r19) (hs23.adds K) (show PCmd.ok r19.p by rw [Option.some.inj (hr20.symm.trans hr6)]; exact ph16)) (k := fun e_ w27 h_ => ⟨.string ⟨(PCmd.enc r19.p).toArray⟩, h_.1, ?_⟩)
      have k28 := h_.2; clear h_
      replace K := K.trans (k28.any _)
      have ln26 := cenc_len (show PCmd.ok r19.p by rw [Option.some.inj (hr20.symm.trans hr6)]; exact ph16)
      refine WL.bin (d := 25) (v := .string ⟨((csU xs i) ++ (PCmd.enc r19.p)).toArray⟩) (cat_run (by (try simp only [List.length_append, List.length_cons, List.length_nil]); omega)) (k := ?_)
      refine WL.op (d := 3) (.string ⟨((csU xs i) ++ (PCmd.enc r19.p)).toArray⟩) (k := ?_)
      refine WL.nil ?_
      refine WX.blockN ?_
      refine WX.seqN ?_
      refine WC.region ?_
      refine WL.op (d := 10) (.int .i64 i) (k := ?_)
      refine WL.opE (d := 11) (.int .i64 (IntKind.i64.wrap (i + 1))) (v := .int .i64 (i + 1)) (congrArg (Value.int .i64) (IntWalk.i64_in _ (by omega))) (k := ?_)
      refine WL.op (d := 4) (.int .i64 (i + 1)) (k := ?_)
      refine WL.nil ?_
      refine WX.rw (t := 3) (v := .string ⟨(csU xs (i + 1)).toArray⟩) (congrArg (fun l : List UInt8 => Value.string ⟨l.toArray⟩) (csU_succ i0 hr20)) (k := ?_)
      refine WX.round (i + 1) (by show (xs.length - (i + 1)).toNat < (xs.length - i).toNat; omega) ⟨(by kernel_rfl), (by kernel_rfl), (by kernel_rfl), trivial⟩ ⟨K, (by omega), (by omega), (upC_succ i0 iu hr6 ph16)⟩
  · have ph2 := of_decide_eq_false h2
    refine WC.exit ?_
    refine WX.seqE ?_
    refine WX.seqE ?_
    refine WX.blockE ?_
    refine WX.seqN ?_
    refine WC.seq ?_
    refine WC.region ?_
    refine WL.op (d := 26) (.string ⟨(csU xs i).toArray⟩) (k := ?_)
    refine WL.op (d := 2) (.string ⟨(csU xs i).toArray⟩) (k := ?_)
    refine WL.nil ?_
    refine WX.seqN ?_
    refine WC.ret ?_
    refine WX.ret (rs := [.tmp 2]) [.string ⟨(csU xs i).toArray⟩] (.string ⟨(csU xs i).toArray⟩) ⟨(by kernel_rfl), trivial⟩ (k := ?_)
    exact ⟨by rw [bytesC_ok (upC_end (i := i) (by omega) iu), csU_end (by omega)], K⟩

end Go.Proofs.Ytfpdfjbooalgjaa
