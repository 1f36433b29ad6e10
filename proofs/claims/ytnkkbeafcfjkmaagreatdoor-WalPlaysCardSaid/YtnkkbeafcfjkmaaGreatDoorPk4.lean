/- WlA: one behind the other. -/
import Derived.Test.YtnkkbeafcfjkmaaGreatDoorPk3
namespace Go.Proofs.YtnkkbeafcfjkmaaGreatDoor
open Go.RowKit
set_option linter.unusedVariables false
set_option linter.unusedSimpArgs false
set_option maxRecDepth 100000 in
set_option maxHeartbeats 4000000 in
theorem wlRecord_c {S : Nat → Prop} {b dk : Nat} {d : GDisk} {at_ n : Int} {stv : Value} {w : World} (hb : w.heap[b]? = some (.cells #[.pointer (some ⟨dk, 0, none⟩), .int .i64 at_, .int .i64 n, stv] 60 (0, 0))) (hd : DiskAt S dk d w) (hnb : ¬ S b) {e : Nat} {i : Int} (a0 : 0 ≤ at_) (a1 : at_ ≤ 1024) (i0 : 0 ≤ i) (i1 : i ≤ 1024) : Calls Tryz.prog 29 #[.pointer (some ⟨b, 0, none⟩), .int .u64 (e : Int), .int .i64 i] w fun e_ w' => e_ = .returned (.tuple #[.string ⟨(d.recT (at_ + i) e i.toNat).toArray⟩, .bool (decide (d.recP (at_ + i) e i.toNat)), .int .i64 (d.readE (at_ + i))]) ∧ DiskAt S dk (d.readD (at_ + i)) w' ∧ Keeps S w w' := by
  have K : Keeps S w w := Keeps.refl _ w
  have lk0 : ∀ k, S k → S k ∨ w.heap.size ≤ k := fun k h => .inl h
  refine Calls.start Tryz.func29 rfl (by kernel_rfl) ?_
  refine WC.seq ?_
  refine WC.region ?_
  refine WL.op (d := 6) (.string ⟨#[]⟩) (k := ?_)
  refine WL.op (d := 7) (.bool false) (k := ?_)
  refine WL.op (d := 8) (.int .i64 0) (k := ?_)
  refine WL.nil ?_
  refine WX.seqN ?_
  refine WC.seq ?_
  have rl_ := GDisk.readT_len hd.ok (at_ + i)
  refine WC.mixed (fun k => S k) 15 (k := fun w1 k2 => ?_)
  replace hb := k2.heap hb id
  replace hd := hd.adds k2
  replace K := K.trans (k2.any _)
  have KC := Keeps.refl (fun k => S k) w1
  have bh3 := hb
  have Kb := K
  refine WA.quiet 0 (d := 14) (.pointer (some ⟨b, 0, none⟩)) KC (hi := rfl) (k := ?_)
  refine WA.quiet 1 (d := 15) (.pointer (some ⟨b, 0, none⟩)) KC (hi := rfl) (k := ?_)
  refine WA.quiet 2 (d := 16) (.pointer (some ⟨b, 0, none⟩)) KC (hi := rfl) (k := ?_)
  refine WA.quietR 3 (d := 17) (.pointer (some ⟨dk, 0, none⟩)) KC (exec_load (fun w_ k_ => ld1 (T := 24) (i := 0) (k_.heap bh3 hnb))) (hi := rfl) (k := ?_)
  refine WA.quiet 4 (d := 18) (.pointer (some ⟨b, 0, none⟩)) KC (hi := rfl) (k := ?_)
  refine WA.quiet 5 (d := 19) (.pointer (some ⟨b, 0, none⟩)) KC (hi := rfl) (k := ?_)
  refine WA.quiet 6 (d := 20) (.pointer (some ⟨b, 1, none⟩)) KC (hi := rfl) (k := ?_)
  refine WA.quietR 7 (d := 21) (.int .i64 at_) KC (exec_load (fun w_ k_ => ld1 (T := 3) (i := 1) (k_.heap bh3 hnb))) (hi := rfl) (k := ?_)
  refine WA.quiet 8 (d := 22) (.int .i64 i) KC (hi := rfl) (k := ?_)
  refine WA.quiet 9 (d := 23) (.int .i64 (IntKind.i64.wrap (at_ + i))) KC (hi := rfl) (k := ?_)
  refine WA.rw (t := 23) (v := .int .i64 (at_ + i)) (congrArg (Value.int .i64) (IntWalk.i64_in _ (by omega))) (k := ?_)
  refine WA.step 10 (hi := rfl) (k := ?_)
  refine WL.callG (d := 24) (f := 38) (args := #[.pointer (some ⟨dk, 0, none⟩), .int .i64 (at_ + i)]) (dRead_c (a := at_ + i) hd) (k := fun e_ w4 h_ => ?_)
  obtain ⟨rfl, hd5, k6⟩ := h_
  refine ⟨_, rfl, ?_⟩
  replace hb := k6.heap hb hnb
  replace K := K.trans' k6 (fun i hi e => (lk0 i e).elim (fun h => h) (fun h => absurd hi (Nat.not_lt.2 h)))
  replace KC := KC.trans' k6 (fun i hi e => e)
  clear hd
  refine WL.nil ?_
  refine WX.nxt KC ?_
  refine WA.quiet 11 (d := 13) (.tuple #[.string ⟨(GDisk.readT d (at_ + i)).toArray⟩, .int .i64 (GDisk.readE d (at_ + i))]) KC (hi := rfl) (k := ?_)
  refine WA.quiet 12 (d := 25) (.string ⟨(GDisk.readT d (at_ + i)).toArray⟩) KC (hi := rfl) (k := ?_)
  refine WA.quiet 13 (d := 26) (.int .i64 (GDisk.readE d (at_ + i))) KC (hi := rfl) (k := ?_)
  refine WA.quiet 14 (d := 9) (.string ⟨(GDisk.readT d (at_ + i)).toArray⟩) KC (hi := rfl) (k := ?_)
  refine WA.step 15 (hi := rfl) (k := ?_)
  refine WL.op (d := 10) (.int .i64 (GDisk.readE d (at_ + i))) (k := ?_)
  refine WL.nil ?_
  refine WX.nxtL ?_
  refine WA.done (k := ?_)
  clear KC
  refine WX.seqN ?_
  refine WC.seq ?_
  refine WC.seq ?_
  refine WC.region ?_
  refine WL.op (d := 27) (.int .i64 (GDisk.readE d (at_ + i))) (k := ?_)
  refine WL.op (d := 28) (.bool ((GDisk.readE d (at_ + i)) != 0)) (k := ?_)
  refine WL.op (d := 29) (.bool ((GDisk.readE d (at_ + i)) != 0)) (k := ?_)
  refine bsplit ((GDisk.readE d (at_ + i)) != 0) (fun h7 => ?_) (fun h7 => ?_)
  · have ph7 := bne_iff_ne.1 h7
    refine WL.rw (t := 29) (v := .bool true) (congrArg Value.bool h7) (k := ?_)
    refine WL.skip (d := 30) (k := ?_)
    refine WL.skip (d := 31) (k := ?_)
    refine WL.skip (d := 32) (k := ?_)
    refine WL.skip (d := 33) (k := ?_)
    refine WL.skip (d := 34) (k := ?_)
    refine WL.skip (d := 35) (k := ?_)
    refine WL.op (d := 36) (.bool true) (k := ?_)
    refine WL.nil ?_
    refine WX.seqN ?_
    refine WC.condT (k := ?_)
    refine WC.seq ?_
    refine WC.region ?_
    refine WL.op (d := 37) (.int .i64 (GDisk.readE d (at_ + i))) (k := ?_)
    refine WL.op (d := 6) (.string ⟨#[]⟩) (k := ?_)
    refine WL.op (d := 7) (.bool false) (k := ?_)
    refine WL.op (d := 8) (.int .i64 (GDisk.readE d (at_ + i))) (k := ?_)
    refine WL.nil ?_
    refine WX.seqN ?_
    refine WC.ret ?_
    refine WX.seqR ?_
    refine WX.ret (rs := [.tmp 6, .tmp 7, .tmp 8]) [.string ⟨#[]⟩, .bool false, .int .i64 (GDisk.readE d (at_ + i))] (.tuple #[.string ⟨#[]⟩, .bool false, .int .i64 (GDisk.readE d (at_ + i))]) ⟨(by kernel_rfl), (by kernel_rfl), (by kernel_rfl), trivial⟩ (k := ?_)
    obtain ⟨e1_, e2_⟩ := GDisk.rec_io (d := d) (a := at_ + i) (e := e) (i := i.toNat) ph7
    exact ⟨by rw [e1_, e2_], hd5, K⟩
  · have ph7 := of_bne_false h7
    refine WL.rw (t := 29) (v := .bool false) (congrArg Value.bool h7) (k := ?_)
    refine WL.op (d := 30) (.string ⟨(GDisk.readT d (at_ + i)).toArray⟩) (k := ?_)
    refine WL.op (d := 31) (.int .u64 ((e : Nat) : Int)) (k := ?_)
    refine WL.op (d := 32) (.int .i64 i) (k := ?_)
    refine WL.opE (d := 33) (.int .u64 (IntKind.u64.wrap i)) (v := .int .u64 ((i.toNat : Nat) : Int)) (congrArg (Value.int .u64) (by rw [IntWalk.u64_in _ (by omega)]; omega)) (k := ?_)
    refine WL.callG (d := 34) (f := 39) (args := #[.string ⟨(GDisk.readT d (at_ + i)).toArray⟩, .int .u64 ((e : Nat) : Int), .int .u64 ((i.toNat : Nat) : Int)]) (fWhole_c (l := GDisk.readT d (at_ + i)) (e := e) (n := i.toNat) (by show List.length (GDisk.readT d (at_ + i)) ≤ _; first | omega | (simp; done) | (simp; omega)) w4) (k := fun e_ w8 h_ => ⟨.bool (decide (isCell (GDisk.readT d (at_ + i)) ∧ rdE (GDisk.readT d (at_ + i)) = e ∧ rdN (GDisk.readT d (at_ + i)) = i.toNat)), h_.1, ?_⟩)
    have k9 := h_.2; clear h_
    replace hb := k9.heap hb id
    replace hd5 := hd5.adds k9
    replace K := K.trans (k9.any _)
    refine WL.op (d := 35) (.bool (!(decide (isCell (GDisk.readT d (at_ + i)) ∧ rdE (GDisk.readT d (at_ + i)) = e ∧ rdN (GDisk.readT d (at_ + i)) = i.toNat)))) (k := ?_)
    refine WL.op (d := 36) (.bool (!(decide (isCell (GDisk.readT d (at_ + i)) ∧ rdE (GDisk.readT d (at_ + i)) = e ∧ rdN (GDisk.readT d (at_ + i)) = i.toNat)))) (k := ?_)
    refine WL.nil ?_
    refine WX.seqN ?_
    refine WC.cond (b := !(decide (isCell (GDisk.readT d (at_ + i)) ∧ rdE (GDisk.readT d (at_ + i)) = e ∧ rdN (GDisk.readT d (at_ + i)) = i.toNat))) (ht := fun h10 => ?_) (hf := fun h10 => ?_)
    · have h11 : (decide (isCell (GDisk.readT d (at_ + i)) ∧ rdE (GDisk.readT d (at_ + i)) = e ∧ rdN (GDisk.readT d (at_ + i)) = i.toNat)) = false := Bool.not_inj (y := false) h10
      have ph11 := of_decide_eq_false h11
      refine WC.seq ?_
      refine WC.region ?_
      refine WL.op (d := 37) (.int .i64 (GDisk.readE d (at_ + i))) (k := ?_)
      refine WL.op (d := 6) (.string ⟨#[]⟩) (k := ?_)
      refine WL.op (d := 7) (.bool false) (k := ?_)
      refine WL.op (d := 8) (.int .i64 (GDisk.readE d (at_ + i))) (k := ?_)
      refine WL.nil ?_
      refine WX.seqN ?_
      refine WC.ret ?_
      refine WX.seqR ?_
      refine WX.ret (rs := [.tmp 6, .tmp 7, .tmp 8]) [.string ⟨#[]⟩, .bool false, .int .i64 (GDisk.readE d (at_ + i))] (.tuple #[.string ⟨#[]⟩, .bool false, .int .i64 (GDisk.readE d (at_ + i))]) ⟨(by kernel_rfl), (by kernel_rfl), (by kernel_rfl), trivial⟩ (k := ?_)
      have z_ : GDisk.readE d (at_ + i) = 0 := by omega
      obtain ⟨e1_, e2_⟩ := GDisk.rec_no (d := d) (a := at_ + i) (e := e) (i := i.toNat) ph11
      exact ⟨by rw [e1_, e2_, z_], hd5, K⟩
    · have h12 : (decide (isCell (GDisk.readT d (at_ + i)) ∧ rdE (GDisk.readT d (at_ + i)) = e ∧ rdN (GDisk.readT d (at_ + i)) = i.toNat)) = true := Bool.not_inj (y := true) h10
      have ph12 := of_decide_eq_true h12
      refine WC.skip ?_
      refine WX.seqN ?_
      refine WC.seq ?_
      refine WC.region ?_
      refine WL.op (d := 39) (.string ⟨(GDisk.readT d (at_ + i)).toArray⟩) (k := ?_)
      refine WL.callG (d := 40) (f := 40) (args := #[.string ⟨(GDisk.readT d (at_ + i)).toArray⟩]) (fRead_c (l := GDisk.readT d (at_ + i)) (by show List.length (GDisk.readT d (at_ + i)) ≤ _; first | omega | (simp; done) | (simp; omega)) w8) (k := fun e_ w16 h_ => ⟨.tuple #[.agg #[.string ⟨(rdP (GDisk.readT d (at_ + i))).toArray⟩, .int .u64 ((rdE (GDisk.readT d (at_ + i)) : Nat) : Int), .int .u64 ((rdN (GDisk.readT d (at_ + i)) : Nat) : Int)], .bool (decide (isCell (GDisk.readT d (at_ + i))))], h_.1, ?_⟩)
      have k17 := h_.2; clear h_
      replace hb := k17.heap hb id
      replace hd5 := hd5.adds k17
      replace K := K.trans (k17.any _)
      have te13 := rdE_lt (GDisk.readT d (at_ + i))
      have te14 := rdN_lt (GDisk.readT d (at_ + i))
      have te15 := rdP_len (GDisk.readT d (at_ + i))
      refine WL.op (d := 38) (.tuple #[.agg #[.string ⟨(rdP (GDisk.readT d (at_ + i))).toArray⟩, .int .u64 ((rdE (GDisk.readT d (at_ + i)) : Nat) : Int), .int .u64 ((rdN (GDisk.readT d (at_ + i)) : Nat) : Int)], .bool (decide (isCell (GDisk.readT d (at_ + i))))]) (k := ?_)
      refine WL.op (d := 41) (.agg #[.string ⟨(rdP (GDisk.readT d (at_ + i))).toArray⟩, .int .u64 ((rdE (GDisk.readT d (at_ + i)) : Nat) : Int), .int .u64 ((rdN (GDisk.readT d (at_ + i)) : Nat) : Int)]) (k := ?_)
      refine WL.op (d := 42) (.bool (decide (isCell (GDisk.readT d (at_ + i))))) (k := ?_)
      refine WL.new (d := 11) (T := 72) #[.string ⟨#[]⟩, .int .u64 0, .int .u64 0] (k := fun b18 w19 g20 hb21 k22 => ?_)
      have z23 := Nat.le_trans K.size g20
      have n24 : b ≠ b18 := Nat.ne_of_lt (Nat.lt_of_lt_of_le (lt_of_heap hb) g20)
      have n25 : ¬ S b18 := fun h => absurd (hd5.lt _ h) (Nat.not_lt.2 g20)
      replace hb := k22.heap hb id
      replace hd5 := hd5.adds k22
      replace K := K.trans (k22.any _)
      refine WL.store (v := .agg #[.string ⟨(rdP (GDisk.readT d (at_ + i))).toArray⟩, .int .u64 ((rdE (GDisk.readT d (at_ + i)) : Nat) : Int), .int .u64 ((rdN (GDisk.readT d (at_ + i)) : Nat) : Int)]) (i := 0) (cs' := #[.string ⟨(rdP (GDisk.readT d (at_ + i))).toArray⟩, .int .u64 ((rdE (GDisk.readT d (at_ + i)) : Nat) : Int), .int .u64 ((rdN (GDisk.readT d (at_ + i)) : Nat) : Int)]) hb21 (k := fun w26 hb27 k28 => ?_)
      replace hb := k28.heap hb n24
      replace hd5 := hd5.keeps k28 (fun i hi e => n25 (e ▸ hi))
      replace K := K.trans' k28 (fun i hi e => absurd (e ▸ hi) (Nat.not_lt.2 z23))
      clear hb21
      refine WL.op (d := 12) (.bool (decide (isCell (GDisk.readT d (at_ + i))))) (k := ?_)
      refine WL.nil ?_
      refine WX.seqN ?_
      refine WC.seq ?_
      refine WC.region ?_
      refine WL.op (d := 43) (.pointer (some ⟨b18, 0, none⟩)) (k := ?_)
      refine WL.load (v := .string ⟨(rdP (GDisk.readT d (at_ + i))).toArray⟩) (ld1 (T := 9) (i := 0) hb27) (k := ?_)
      refine WL.op (d := 6) (.string ⟨(rdP (GDisk.readT d (at_ + i))).toArray⟩) (k := ?_)
      refine WL.op (d := 7) (.bool true) (k := ?_)
      refine WL.op (d := 8) (.int .i64 0) (k := ?_)
      refine WL.nil ?_
      refine WX.seqN ?_
      refine WC.ret ?_
      refine WX.ret (rs := [.tmp 6, .tmp 7, .tmp 8]) [.string ⟨(rdP (GDisk.readT d (at_ + i))).toArray⟩, .bool true, .int .i64 0] (.tuple #[.string ⟨(rdP (GDisk.readT d (at_ + i))).toArray⟩, .bool true, .int .i64 0]) ⟨(by kernel_rfl), (by kernel_rfl), (by kernel_rfl), trivial⟩ (k := ?_)
      have z_ : GDisk.readE d (at_ + i) = 0 := by omega
      obtain ⟨e1_, e2_⟩ := GDisk.rec_ok (d := d) (a := at_ + i) (e := e) (i := i.toNat) z_ ph12
      exact ⟨by rw [e1_, e2_, z_], hd5, K⟩
set_option maxRecDepth 100000 in
set_option maxHeartbeats 4000000 in
theorem wlWrites_c {S : Nat → Prop} {b dk : Nat} {d : GDisk} {at_ n : Int} {stv : Value} {w : World} (hb : w.heap[b]? = some (.cells #[.pointer (some ⟨dk, 0, none⟩), .int .i64 at_, .int .i64 n, stv] 60 (0, 0))) (hd : DiskAt S dk d w) (hnb : ¬ S b) {l : List UInt8} {e : Nat} {r : Int} (hl : l.length ≤ 43) (a0 : 0 ≤ at_) (a1 : at_ ≤ 1024) (r0 : 0 ≤ r) (r1 : r ≤ 1024) (he : e < 18446744073709551616) (hm : d.opn.length < 1000000) : Calls Tryz.prog 34 #[.pointer (some ⟨b, 0, none⟩), .string ⟨l.toArray⟩, .agg #[.int .u64 (e : Int), .int .i64 r]] w fun e_ w' => e_ = .returned (.int .i64 (GDisk.wrsE d (at_ + r) (makeS l e r.toNat))) ∧ DkPost S dk (GDisk.wrsD d (at_ + r) (makeS l e r.toNat)) w w' := by
  have K : Keeps S w w := Keeps.refl _ w
  have lk0 : ∀ k, S k → S k ∨ w.heap.size ≤ k := fun k h => .inl h
  refine Calls.start Tryz.func34 rfl (by kernel_rfl) ?_
  refine WC.seq ?_
  refine WC.region ?_
  refine WL.new (d := 5) (T := 67) #[.int .u64 ((e : Nat) : Int), .int .i64 r] (k := fun b1 w2 g3 hb4 k5 => ?_)
  have z6 := Nat.le_trans K.size g3
  have n7 : b ≠ b1 := Nat.ne_of_lt (Nat.lt_of_lt_of_le (lt_of_heap hb) g3)
  have n8 : ¬ S b1 := fun h => absurd (hd.lt _ h) (Nat.not_lt.2 g3)
  replace hb := k5.heap hb id
  replace hd := hd.adds k5
  replace K := K.trans (k5.any _)
  refine WL.op (d := 6) (.int .i64 0) (k := ?_)
  refine WL.nil ?_
  refine WX.seqN ?_
  refine WC.seq ?_
  refine WC.region ?_
  refine WL.op (d := 11) (.string ⟨(l).toArray⟩) (k := ?_)
  refine WL.op (d := 12) (.pointer (some ⟨b1, 0, none⟩)) (k := ?_)
  refine WL.load (v := .int .u64 ((e : Nat) : Int)) (ld1 (T := 32) (i := 0) hb4) (k := ?_)
  refine WL.op (d := 14) (.pointer (some ⟨b1, 1, none⟩)) (k := ?_)
  refine WL.load (v := .int .i64 r) (ld1 (T := 3) (i := 1) hb4) (k := ?_)
  refine WL.opE (d := 16) (.int .u64 (IntKind.u64.wrap r)) (v := .int .u64 ((r.toNat : Nat) : Int)) (congrArg (Value.int .u64) (by rw [IntWalk.u64_in _ (by omega)]; omega)) (k := ?_)
  refine WL.op (d := 17) (.agg #[.string ⟨(l).toArray⟩, .int .u64 ((e : Nat) : Int), .int .u64 ((r.toNat : Nat) : Int)]) (k := ?_)
  refine WL.callG (d := 18) (f := 44) (args := #[.agg #[.string ⟨(l).toArray⟩, .int .u64 ((e : Nat) : Int), .int .u64 ((r.toNat : Nat) : Int)]]) (fMake_ok (p := l) (e := e) (n := r.toNat) (by first | omega | (simp; done) | (simp; omega)) (by show List.length l ≤ _; first | omega | (simp; done) | (simp; omega)) (by omega) (by omega) w2) (k := fun e_ w10 h_ => ⟨.tuple #[.string ⟨(makeS l e r.toNat).toArray⟩, .int .i64 0], h_.1, ?_⟩)
  have k11 := h_.2; clear h_
  replace hb := k11.heap hb id
  replace hd := hd.adds k11
  replace hb4 := k11.heap hb4 id
  replace K := K.trans (k11.any _)
  have ml9 := makeS_len (p := l) (by first | omega | (simp; done) | (simp; omega)) e r.toNat
  refine WL.op (d := 10) (.tuple #[.string ⟨(makeS l e r.toNat).toArray⟩, .int .i64 0]) (k := ?_)
  refine WL.op (d := 19) (.string ⟨(makeS l e r.toNat).toArray⟩) (k := ?_)
  refine WL.op (d := 20) (.int .i64 0) (k := ?_)
  refine WL.op (d := 7) (.string ⟨(makeS l e r.toNat).toArray⟩) (k := ?_)
  refine WL.op (d := 8) (.int .i64 0) (k := ?_)
  refine WL.nil ?_
  refine WX.seqN ?_
  refine WC.seq ?_
  refine WC.mixed (fun k => S k) 13 (k := fun w12 k13 => ?_)
  replace hb := k13.heap hb id
  replace hd := hd.adds k13
  replace hb4 := k13.heap hb4 id
  replace K := K.trans (k13.any _)
  have KC := Keeps.refl (fun k => S k) w12
  have bh14 := hb
  have bh15 := hb4
  have Kb := K
  refine WA.quiet 0 (d := 21) (.pointer (some ⟨b, 0, none⟩)) KC (hi := rfl) (k := ?_)
  refine WA.quiet 1 (d := 22) (.pointer (some ⟨b, 0, none⟩)) KC (hi := rfl) (k := ?_)
  refine WA.quiet 2 (d := 23) (.pointer (some ⟨b, 0, none⟩)) KC (hi := rfl) (k := ?_)
  refine WA.quietR 3 (d := 24) (.pointer (some ⟨dk, 0, none⟩)) KC (exec_load (fun w_ k_ => ld1 (T := 24) (i := 0) (k_.heap bh14 hnb))) (hi := rfl) (k := ?_)
  refine WA.quiet 4 (d := 25) (.pointer (some ⟨b, 0, none⟩)) KC (hi := rfl) (k := ?_)
  refine WA.quiet 5 (d := 26) (.pointer (some ⟨b, 0, none⟩)) KC (hi := rfl) (k := ?_)
  refine WA.quiet 6 (d := 27) (.pointer (some ⟨b, 1, none⟩)) KC (hi := rfl) (k := ?_)
  refine WA.quietR 7 (d := 28) (.int .i64 at_) KC (exec_load (fun w_ k_ => ld1 (T := 3) (i := 1) (k_.heap bh14 hnb))) (hi := rfl) (k := ?_)
  refine WA.quiet 8 (d := 29) (.pointer (some ⟨b1, 1, none⟩)) KC (hi := rfl) (k := ?_)
  refine WA.quietR 9 (d := 30) (.int .i64 r) KC (exec_load (fun w_ k_ => ld1 (T := 3) (i := 1) (k_.heap bh15 n8))) (hi := rfl) (k := ?_)
  refine WA.quiet 10 (d := 31) (.int .i64 (IntKind.i64.wrap (at_ + r))) KC (hi := rfl) (k := ?_)
  refine WA.rw (t := 31) (v := .int .i64 (at_ + r)) (congrArg (Value.int .i64) (IntWalk.i64_in _ (by omega))) (k := ?_)
  refine WA.quiet 11 (d := 32) (.string ⟨(makeS l e r.toNat).toArray⟩) KC (hi := rfl) (k := ?_)
  refine WA.step 12 (hi := rfl) (k := ?_)
  refine WL.callG (d := 33) (f := 45) (args := #[.pointer (some ⟨dk, 0, none⟩), .int .i64 (at_ + r), .string ⟨(makeS l e r.toNat).toArray⟩]) (dWrite_c (a := at_ + r) (l := makeS l e r.toNat) (by omega) (by show List.length (makeS l e r.toNat) ≤ _; first | omega | (simp; done) | (simp; omega)) hd) (k := fun e_ w16 h_ => ?_)
  obtain ⟨rfl, S19, hd17, lk20, k18⟩ := h_
  refine ⟨_, rfl, ?_⟩
  have n21 : ¬ S19 b := fun h => (lk20 _ h).elim hnb (fun h2 => absurd (lt_of_heap hb) (Nat.not_lt.2 h2))
  have n22 : ¬ S19 b1 := fun h => (lk20 _ h).elim n8 (fun h2 => absurd (lt_of_heap hb4) (Nat.not_lt.2 h2))
  have lk23 := lk_step lk0 lk20 K
  replace hb := k18.heap hb hnb
  replace hb4 := k18.heap hb4 n8
  replace K := K.trans' k18 (fun i hi e => (lk0 i e).elim (fun h => h) (fun h => absurd hi (Nat.not_lt.2 h)))
  replace KC := KC.trans' k18 (fun i hi e => e)
  clear hd
  refine WL.nil ?_
  refine WX.nxt KC ?_
  refine WA.step 13 (hi := rfl) (k := ?_)
  refine WL.op (d := 9) (.int .i64 (GDisk.writeE d (at_ + r) (makeS l e r.toNat))) (k := ?_)
  refine WL.nil ?_
  refine WX.nxtL ?_
  refine WA.done (k := ?_)
  clear KC
  refine WX.seqN ?_
  refine WC.seq ?_
  refine WC.seq ?_
  refine WC.region ?_
  refine WL.op (d := 34) (.int .i64 (GDisk.writeE d (at_ + r) (makeS l e r.toNat))) (k := ?_)
  refine WL.op (d := 35) (.bool ((GDisk.writeE d (at_ + r) (makeS l e r.toNat)) != 0)) (k := ?_)
  refine WL.nil ?_
  refine WX.seqN ?_
  refine WC.cond (b := (GDisk.writeE d (at_ + r) (makeS l e r.toNat)) != 0) (ht := fun h24 => ?_) (hf := fun h24 => ?_)
  · have ph24 := bne_iff_ne.1 h24
    refine WC.seq ?_
    refine WC.region ?_
    refine WL.op (d := 36) (.int .i64 (GDisk.writeE d (at_ + r) (makeS l e r.toNat))) (k := ?_)
    refine WL.op (d := 6) (.int .i64 (GDisk.writeE d (at_ + r) (makeS l e r.toNat))) (k := ?_)
    refine WL.nil ?_
    refine WX.seqN ?_
    refine WC.ret ?_
    refine WX.seqR ?_
    refine WX.ret (rs := [.tmp 6]) [.int .i64 (GDisk.writeE d (at_ + r) (makeS l e r.toNat))] (.int .i64 (GDisk.writeE d (at_ + r) (makeS l e r.toNat))) ⟨(by kernel_rfl), trivial⟩ (k := ?_)
    obtain ⟨e1_, e2_⟩ := GDisk.wrs_no (d := d) (a := at_ + r) (x := makeS l e r.toNat) ph24
    exact ⟨by rw [e1_], by rw [e2_]; exact DkPost.of hd17 lk23 K⟩
  · have ph24 := of_bne_false h24
    refine WC.skip ?_
    refine WX.seqN ?_
    refine WC.seq ?_
    refine WC.region ?_
    refine WL.op (d := 37) (.pointer (some ⟨b, 0, none⟩)) (k := ?_)
    refine WL.op (d := 38) (.pointer (some ⟨b, 0, none⟩)) (k := ?_)
    refine WL.op (d := 39) (.pointer (some ⟨b, 0, none⟩)) (k := ?_)
    refine WL.load (v := .pointer (some ⟨dk, 0, none⟩)) (ld1 (T := 24) (i := 0) hb) (k := ?_)
    refine WL.callG (d := 41) (f := 46) (args := #[.pointer (some ⟨dk, 0, none⟩)]) (dFlush_c hd17) (k := fun e_ w25 h_ => ?_)
    obtain ⟨rfl, S28, hd26, lk29, k27⟩ := h_
    refine ⟨_, rfl, ?_⟩
    have n30 : ¬ S28 b := fun h => (lk29 _ h).elim n21 (fun h2 => absurd (lt_of_heap hb) (Nat.not_lt.2 h2))
    have n31 : ¬ S28 b1 := fun h => (lk29 _ h).elim n22 (fun h2 => absurd (lt_of_heap hb4) (Nat.not_lt.2 h2))
    have lk32 := lk_step lk23 lk29 K
    replace hb := k27.heap hb n21
    replace hb4 := k27.heap hb4 n22
    replace K := K.trans' k27 (fun i hi e => (lk23 i e).elim (fun h => h) (fun h => absurd hi (Nat.not_lt.2 h)))
    clear hd17
    refine WL.op (d := 6) (.int .i64 (GDisk.flushE (GDisk.writeD d (at_ + r) (makeS l e r.toNat)))) (k := ?_)
    refine WL.nil ?_
    refine WX.seqN ?_
    refine WC.ret ?_
    refine WX.ret (rs := [.tmp 6]) [.int .i64 (GDisk.flushE (GDisk.writeD d (at_ + r) (makeS l e r.toNat)))] (.int .i64 (GDisk.flushE (GDisk.writeD d (at_ + r) (makeS l e r.toNat)))) ⟨(by kernel_rfl), trivial⟩ (k := ?_)
    obtain ⟨e1_, e2_⟩ := GDisk.wrs_ok (d := d) (a := at_ + r) (x := makeS l e r.toNat) (by omega)
    exact ⟨by rw [e1_], by rw [e2_]; exact DkPost.of hd26 lk32 K⟩
set_option maxRecDepth 100000 in
set_option maxHeartbeats 4000000 in
theorem wlAppend_ok {S : Nat → Prop} {b dk : Nat} {d : GDisk} {at_ n : Int} {e : Nat} {r : Int} {w : World} (hb : w.heap[b]? = some (.cells #[.pointer (some ⟨dk, 0, none⟩), .int .i64 at_, .int .i64 n, .iface 67 (.agg #[.int .u64 (e : Int), .int .i64 r])] 60 (0, 0))) (hd : DiskAt S dk d w) (hnb : ¬ S b) {l : List UInt8} (hl : l.length ≤ 43) (a0 : 0 ≤ at_) (a1 : at_ ≤ 1024) (r0 : 0 ≤ r) (r1 : r ≤ 1024) (he : e < 18446744073709551616) (hm : d.opn.length < 1000000) (hr : r < n) (hE : GDisk.wrsE d (at_ + r) (makeS l e r.toNat) = 0) : Calls Tryz.prog 18 #[.pointer (some ⟨b, 0, none⟩), .string ⟨l.toArray⟩] w fun e_ w' => e_ = .returned (.int .i64 0) ∧ w'.heap[b]? = some (.cells #[.pointer (some ⟨dk, 0, none⟩), .int .i64 at_, .int .i64 n, .iface 67 (.agg #[.int .u64 (e : Int), .int .i64 (r + 1)])] 60 (0, 0)) ∧ ∃ S', DiskAt S' dk (GDisk.wrsD d (at_ + r) (makeS l e r.toNat)) w' ∧ (∀ k, S' k → S k ∨ w.heap.size ≤ k) ∧ ¬ S' b ∧ Keeps (fun k => k = b ∨ S k) w w' := by
  have K : Keeps (fun k => k = b ∨ S k) w w := Keeps.refl _ w
  have lk0 : ∀ k, S k → S k ∨ w.heap.size ≤ k := fun k h => .inl h
  have h1 : (decide ((l.length : Int) > 43)) = false := decide_eq_false (by omega)
  have ph1 := of_decide_eq_false h1
  have h2 : (decide (r ≥ n)) = false := decide_eq_false (by omega)
  have ph2 := of_decide_eq_false h2
  have h3 : ((GDisk.wrsE d (at_ + r) (makeS l e r.toNat)) == 0) = true := beq_iff_eq.2 hE
  have ph3 := eq_of_beq h3
  refine Calls.start Tryz.func18 rfl (by kernel_rfl) ?_
  refine WC.seq ?_
  refine WC.region ?_
  refine WL.op (d := 4) (.int .i64 0) (k := ?_)
  refine WL.nil ?_
  refine WX.seqN ?_
  refine WC.seq ?_
  refine WC.seq ?_
  refine WC.region ?_
  refine WL.op (d := 7) (.pointer (some ⟨b, 0, none⟩)) (k := ?_)
  refine WL.op (d := 8) (.bool false) (k := ?_)
  refine WL.op (d := 9) (.bool false) (k := ?_)
  refine WL.op (d := 10) (.string ⟨(l).toArray⟩) (k := ?_)
  refine WL.op (d := 11) (.int .i64 (l.length : Int)) (k := ?_)
  refine WL.op (d := 12) (.bool (decide ((l.length : Int) > 43))) (k := ?_)
  refine WL.op (d := 13) (.bool (decide ((l.length : Int) > 43))) (k := ?_)
  refine WL.nil ?_
  refine WX.seqN ?_
  refine WC.rw (t := 13) (v := .bool false) (congrArg Value.bool h1) (k := ?_)
  refine WC.condF (k := ?_)
  refine WC.skip ?_
  refine WX.seqN ?_
  refine WC.seq ?_
  refine WC.seq ?_
  refine WC.region ?_
  refine WL.op (d := 14) (.pointer (some ⟨b, 0, none⟩)) (k := ?_)
  refine WL.op (d := 15) (.pointer (some ⟨b, 0, none⟩)) (k := ?_)
  refine WL.op (d := 16) (.pointer (some ⟨b, 3, none⟩)) (k := ?_)
  refine WL.load (v := .iface 67 (.agg #[.int .u64 (e : Int), .int .i64 r])) (ld1 (T := 58) (i := 3) hb) (k := ?_)
  refine WL.nil ?_
  refine WX.seqN ?_
  refine WC.block ?_
  refine WC.seq ?_
  refine WC.region ?_
  refine WL.op (d := 18) (.tuple #[.agg #[.int .u64 (e : Int), .int .i64 r], .bool true]) (k := ?_)
  refine WL.op (d := 19) (.bool true) (k := ?_)
  refine WL.op (d := 20) (.agg #[.int .u64 (e : Int), .int .i64 r]) (k := ?_)
  refine WL.nil ?_
  refine WX.seqN ?_
  refine WC.condT (k := ?_)
  refine WC.seq ?_
  refine WC.region ?_
  refine WL.new (d := 5) (T := 67) #[.int .u64 0, .int .i64 0] (k := fun b4 w5 g6 hb7 k8 => ?_)
  have z9 := Nat.le_trans K.size g6
  have n10 : b ≠ b4 := Nat.ne_of_lt (Nat.lt_of_lt_of_le (lt_of_heap hb) g6)
  have n11 : ¬ S b4 := fun h => absurd (hd.lt _ h) (Nat.not_lt.2 g6)
  replace hb := k8.heap hb id
  replace hd := hd.adds k8
  replace K := K.trans (k8.any _)
  refine WL.store (v := .agg #[.int .u64 (e : Int), .int .i64 r]) (i := 0) (cs' := #[.int .u64 (e : Int), .int .i64 r]) hb7 (k := fun w12 hb13 k14 => ?_)
  replace hb := k14.heap hb n10
  replace hd := hd.keeps k14 (fun i hi e => n11 (e ▸ hi))
  replace K := K.trans' k14 (fun i hi e => absurd (e ▸ hi) (Nat.not_lt.2 z9))
  clear hb7
  refine WL.nil ?_
  refine WX.seqN ?_
  refine WC.seq ?_
  refine WC.seq ?_
  refine WC.mixed (fun _ => False) 7 (k := fun w15 k16 => ?_)
  replace hb := k16.heap hb id
  replace hd := hd.adds k16
  replace hb13 := k16.heap hb13 id
  replace K := K.trans (k16.any _)
  have KC := Keeps.refl (fun _ => False) w15
  have bh17 := hb
  have bh18 := hb13
  have Kb := K
  refine WA.quiet2 0 (d := 21) (.pointer (some ⟨b4, 1, none⟩)) KC (hi := rfl) (k := ?_)
  refine WA.quietR2 1 (d := 22) (.int .i64 r) KC (exec_load (fun w_ k_ => ld1 (T := 3) (i := 1) (k_.heap bh18 id))) (hi := rfl) (k := ?_)
  refine WA.quiet2 2 (d := 23) (.pointer (some ⟨b, 0, none⟩)) KC (hi := rfl) (k := ?_)
  refine WA.quiet2 3 (d := 24) (.pointer (some ⟨b, 0, none⟩)) KC (hi := rfl) (k := ?_)
  refine WA.quiet2 4 (d := 25) (.pointer (some ⟨b, 2, none⟩)) KC (hi := rfl) (k := ?_)
  refine WA.quietR2 5 (d := 26) (.int .i64 n) KC (exec_load (fun w_ k_ => ld1 (T := 3) (i := 2) (k_.heap bh17 id))) (hi := rfl) (k := ?_)
  refine WA.quiet2 6 (d := 27) (.bool (decide (r ≥ n))) KC (hi := rfl) (k := ?_)
  refine WA.done (k := ?_)
  clear KC
  refine WX.seqN ?_
  refine WC.rw (t := 27) (v := .bool false) (congrArg Value.bool h2) (k := ?_)
  refine WC.condF (k := ?_)
  refine WC.skip ?_
  refine WX.seqN ?_
  refine WC.seq ?_
  refine WC.region ?_
  refine WL.op (d := 28) (.pointer (some ⟨b, 0, none⟩)) (k := ?_)
  refine WL.op (d := 29) (.string ⟨(l).toArray⟩) (k := ?_)
  refine WL.load (v := .agg #[.int .u64 (e : Int), .int .i64 r]) (ldN (T := 67) (i := 0) (m := 2) (l := [.int .u64 (e : Int), .int .i64 r]) hb13) (k := ?_)
  refine WL.callG (d := 31) (f := 34) (args := #[.pointer (some ⟨b, 0, none⟩), .string ⟨(l).toArray⟩, .agg #[.int .u64 (e : Int), .int .i64 r]]) (wlWrites_c (l := l) (e := e) (r := r) hb hd hnb (by omega) (by omega) (by omega) (by omega) (by omega) (by omega) (by omega)) (k := fun e_ w19 h_ => ?_)
  obtain ⟨rfl, S20, hd22, lk21, k23⟩ := h_
  refine ⟨_, rfl, ?_⟩
  have n24 : ¬ S20 b := fun h => (lk21 _ h).elim hnb (fun h2 => absurd (lt_of_heap hb) (Nat.not_lt.2 h2))
  have n25 : ¬ S20 b4 := fun h => (lk21 _ h).elim n11 (fun h2 => absurd (lt_of_heap hb13) (Nat.not_lt.2 h2))
  have lk26 := lk_step lk0 lk21 K
  replace hb := k23.heap hb hnb
  replace hb13 := k23.heap hb13 n11
  replace K := K.trans' k23 (fun i hi e => (lk0 i e).elim (fun h => .inr h) (fun h => absurd hi (Nat.not_lt.2 h)))
  clear hd
  refine WL.op (d := 6) (.int .i64 (GDisk.wrsE d (at_ + r) (makeS l e r.toNat))) (k := ?_)
  refine WL.nil ?_
  refine WX.seqN ?_
  refine WC.seq ?_
  refine WC.region ?_
  refine WL.op (d := 32) (.pointer (some ⟨b, 0, none⟩)) (k := ?_)
  refine WL.op (d := 33) (.agg #[]) (k := ?_)
  refine WL.op (d := 34) (.iface 56 (.agg #[])) (k := ?_)
  refine WL.op (d := 35) (.pointer (some ⟨b, 0, none⟩)) (k := ?_)
  refine WL.op (d := 36) (.pointer (some ⟨b, 3, none⟩)) (k := ?_)
  refine WL.store (v := .iface 56 (.agg #[])) (i := 3) (cs' := #[.pointer (some ⟨dk, 0, none⟩), .int .i64 at_, .int .i64 n, .iface 56 (.agg #[])]) hb (k := fun w27 hb28 k29 => ?_)
  replace hd22 := hd22.keeps k29 (fun i hi e => n24 (e ▸ hi))
  replace hb13 := k29.heap hb13 (Ne.symm n10)
  replace K := K.trans' k29 (fun i hi e => .inl e)
  clear hb
  refine WL.nil ?_
  refine WX.seqN ?_
  refine WC.seq ?_
  refine WC.seq ?_
  refine WC.region ?_
  refine WL.op (d := 37) (.int .i64 (GDisk.wrsE d (at_ + r) (makeS l e r.toNat))) (k := ?_)
  refine WL.op (d := 38) (.bool ((GDisk.wrsE d (at_ + r) (makeS l e r.toNat)) == 0)) (k := ?_)
  refine WL.nil ?_
  refine WX.seqN ?_
  refine WC.rw (t := 38) (v := .bool true) (congrArg Value.bool h3) (k := ?_)
  refine WC.condT (k := ?_)
  refine WC.region ?_
  refine WL.op (d := 39) (.pointer (some ⟨b, 0, none⟩)) (k := ?_)
  refine WL.op (d := 40) (.pointer (some ⟨b4, 0, none⟩)) (k := ?_)
  refine WL.load (v := .int .u64 (e : Int)) (ld1 (T := 32) (i := 0) hb13) (k := ?_)
  refine WL.op (d := 42) (.pointer (some ⟨b4, 1, none⟩)) (k := ?_)
  refine WL.load (v := .int .i64 r) (ld1 (T := 3) (i := 1) hb13) (k := ?_)
  refine WL.opE (d := 44) (.int .i64 (IntKind.i64.wrap (r + 1))) (v := .int .i64 (r + 1)) (congrArg (Value.int .i64) (IntWalk.i64_in _ (by omega))) (k := ?_)
  refine WL.op (d := 45) (.agg #[.int .u64 (e : Int), .int .i64 (r + 1)]) (k := ?_)
  refine WL.op (d := 46) (.iface 67 (.agg #[.int .u64 (e : Int), .int .i64 (r + 1)])) (k := ?_)
  refine WL.op (d := 47) (.pointer (some ⟨b, 0, none⟩)) (k := ?_)
  refine WL.op (d := 48) (.pointer (some ⟨b, 3, none⟩)) (k := ?_)
  refine WL.store (v := .iface 67 (.agg #[.int .u64 (e : Int), .int .i64 (r + 1)])) (i := 3) (cs' := #[.pointer (some ⟨dk, 0, none⟩), .int .i64 at_, .int .i64 n, .iface 67 (.agg #[.int .u64 (e : Int), .int .i64 (r + 1)])]) hb28 (k := fun w30 hb31 k32 => ?_)
  replace hd22 := hd22.keeps k32 (fun i hi e => n24 (e ▸ hi))
  replace hb13 := k32.heap hb13 (Ne.symm n10)
  replace K := K.trans' k32 (fun i hi e => .inl e)
  clear hb28
  refine WL.nil ?_
  refine WX.seqN ?_
  refine WC.seq ?_
  refine WC.region ?_
  refine WL.op (d := 49) (.int .i64 (GDisk.wrsE d (at_ + r) (makeS l e r.toNat))) (k := ?_)
  refine WL.op (d := 4) (.int .i64 (GDisk.wrsE d (at_ + r) (makeS l e r.toNat))) (k := ?_)
  refine WL.nil ?_
  refine WX.seqN ?_
  refine WC.ret ?_
  refine WX.blockR ?_
  refine WX.seqR ?_
  refine WX.ret (rs := [.tmp 4]) [.int .i64 (GDisk.wrsE d (at_ + r) (makeS l e r.toNat))] (.int .i64 (GDisk.wrsE d (at_ + r) (makeS l e r.toNat))) ⟨(by kernel_rfl), trivial⟩ (k := ?_)
  exact ⟨by first | rfl | (rw [hE]; done), hb31, _, hd22, lk26, n24, K⟩
set_option maxRecDepth 100000 in
set_option maxHeartbeats 4000000 in
theorem wlAppend_no {S : Nat → Prop} {b dk : Nat} {d : GDisk} {at_ n : Int} {e : Nat} {r : Int} {w : World} (hb : w.heap[b]? = some (.cells #[.pointer (some ⟨dk, 0, none⟩), .int .i64 at_, .int .i64 n, .iface 67 (.agg #[.int .u64 (e : Int), .int .i64 r])] 60 (0, 0))) (hd : DiskAt S dk d w) (hnb : ¬ S b) {l : List UInt8} (hl : l.length ≤ 43) (a0 : 0 ≤ at_) (a1 : at_ ≤ 1024) (r0 : 0 ≤ r) (r1 : r ≤ 1024) (he : e < 18446744073709551616) (hm : d.opn.length < 1000000) (hr : r < n) (hE : ¬ GDisk.wrsE d (at_ + r) (makeS l e r.toNat) = 0) : Calls Tryz.prog 18 #[.pointer (some ⟨b, 0, none⟩), .string ⟨l.toArray⟩] w fun e_ w' => e_ = .returned (.int .i64 (GDisk.wrsE d (at_ + r) (makeS l e r.toNat))) ∧ w'.heap[b]? = some (.cells #[.pointer (some ⟨dk, 0, none⟩), .int .i64 at_, .int .i64 n, .iface 56 (.agg #[])] 60 (0, 0)) ∧ ∃ S', DiskAt S' dk (GDisk.wrsD d (at_ + r) (makeS l e r.toNat)) w' ∧ (∀ k, S' k → S k ∨ w.heap.size ≤ k) ∧ ¬ S' b ∧ Keeps (fun k => k = b ∨ S k) w w' := by
  have K : Keeps (fun k => k = b ∨ S k) w w := Keeps.refl _ w
  have lk0 : ∀ k, S k → S k ∨ w.heap.size ≤ k := fun k h => .inl h
  have h1 : (decide ((l.length : Int) > 43)) = false := decide_eq_false (by omega)
  have ph1 := of_decide_eq_false h1
  have h2 : (decide (r ≥ n)) = false := decide_eq_false (by omega)
  have ph2 := of_decide_eq_false h2
  have h3 : ((GDisk.wrsE d (at_ + r) (makeS l e r.toNat)) == 0) = false := beq_eq_false_iff_ne.2 hE
  have ph3 := ne_of_beq_false h3
  refine Calls.start Tryz.func18 rfl (by kernel_rfl) ?_
  refine WC.seq ?_
  refine WC.region ?_
  refine WL.op (d := 4) (.int .i64 0) (k := ?_)
  refine WL.nil ?_
  refine WX.seqN ?_
  refine WC.seq ?_
  refine WC.seq ?_
  refine WC.region ?_
  refine WL.op (d := 7) (.pointer (some ⟨b, 0, none⟩)) (k := ?_)
  refine WL.op (d := 8) (.bool false) (k := ?_)
  refine WL.op (d := 9) (.bool false) (k := ?_)
  refine WL.op (d := 10) (.string ⟨(l).toArray⟩) (k := ?_)
  refine WL.op (d := 11) (.int .i64 (l.length : Int)) (k := ?_)
  refine WL.op (d := 12) (.bool (decide ((l.length : Int) > 43))) (k := ?_)
  refine WL.op (d := 13) (.bool (decide ((l.length : Int) > 43))) (k := ?_)
  refine WL.nil ?_
  refine WX.seqN ?_
  refine WC.rw (t := 13) (v := .bool false) (congrArg Value.bool h1) (k := ?_)
  refine WC.condF (k := ?_)
  refine WC.skip ?_
  refine WX.seqN ?_
  refine WC.seq ?_
  refine WC.seq ?_
  refine WC.region ?_
  refine WL.op (d := 14) (.pointer (some ⟨b, 0, none⟩)) (k := ?_)
  refine WL.op (d := 15) (.pointer (some ⟨b, 0, none⟩)) (k := ?_)
  refine WL.op (d := 16) (.pointer (some ⟨b, 3, none⟩)) (k := ?_)
  refine WL.load (v := .iface 67 (.agg #[.int .u64 (e : Int), .int .i64 r])) (ld1 (T := 58) (i := 3) hb) (k := ?_)
  refine WL.nil ?_
  refine WX.seqN ?_
  refine WC.block ?_
  refine WC.seq ?_
  refine WC.region ?_
  refine WL.op (d := 18) (.tuple #[.agg #[.int .u64 (e : Int), .int .i64 r], .bool true]) (k := ?_)
  refine WL.op (d := 19) (.bool true) (k := ?_)
  refine WL.op (d := 20) (.agg #[.int .u64 (e : Int), .int .i64 r]) (k := ?_)
  refine WL.nil ?_
  refine WX.seqN ?_
  refine WC.condT (k := ?_)
  refine WC.seq ?_
  refine WC.region ?_
  refine WL.new (d := 5) (T := 67) #[.int .u64 0, .int .i64 0] (k := fun b4 w5 g6 hb7 k8 => ?_)
  have z9 := Nat.le_trans K.size g6
  have n10 : b ≠ b4 := Nat.ne_of_lt (Nat.lt_of_lt_of_le (lt_of_heap hb) g6)
  have n11 : ¬ S b4 := fun h => absurd (hd.lt _ h) (Nat.not_lt.2 g6)
  replace hb := k8.heap hb id
  replace hd := hd.adds k8
  replace K := K.trans (k8.any _)
  refine WL.store (v := .agg #[.int .u64 (e : Int), .int .i64 r]) (i := 0) (cs' := #[.int .u64 (e : Int), .int .i64 r]) hb7 (k := fun w12 hb13 k14 => ?_)
  replace hb := k14.heap hb n10
  replace hd := hd.keeps k14 (fun i hi e => n11 (e ▸ hi))
  replace K := K.trans' k14 (fun i hi e => absurd (e ▸ hi) (Nat.not_lt.2 z9))
  clear hb7
  refine WL.nil ?_
  refine WX.seqN ?_
  refine WC.seq ?_
  refine WC.seq ?_
  refine WC.mixed (fun _ => False) 7 (k := fun w15 k16 => ?_)
  replace hb := k16.heap hb id
  replace hd := hd.adds k16
  replace hb13 := k16.heap hb13 id
  replace K := K.trans (k16.any _)
  have KC := Keeps.refl (fun _ => False) w15
  have bh17 := hb
  have bh18 := hb13
  have Kb := K
  refine WA.quiet2 0 (d := 21) (.pointer (some ⟨b4, 1, none⟩)) KC (hi := rfl) (k := ?_)
  refine WA.quietR2 1 (d := 22) (.int .i64 r) KC (exec_load (fun w_ k_ => ld1 (T := 3) (i := 1) (k_.heap bh18 id))) (hi := rfl) (k := ?_)
  refine WA.quiet2 2 (d := 23) (.pointer (some ⟨b, 0, none⟩)) KC (hi := rfl) (k := ?_)
  refine WA.quiet2 3 (d := 24) (.pointer (some ⟨b, 0, none⟩)) KC (hi := rfl) (k := ?_)
  refine WA.quiet2 4 (d := 25) (.pointer (some ⟨b, 2, none⟩)) KC (hi := rfl) (k := ?_)
  refine WA.quietR2 5 (d := 26) (.int .i64 n) KC (exec_load (fun w_ k_ => ld1 (T := 3) (i := 2) (k_.heap bh17 id))) (hi := rfl) (k := ?_)
  refine WA.quiet2 6 (d := 27) (.bool (decide (r ≥ n))) KC (hi := rfl) (k := ?_)
  refine WA.done (k := ?_)
  clear KC
  refine WX.seqN ?_
  refine WC.rw (t := 27) (v := .bool false) (congrArg Value.bool h2) (k := ?_)
  refine WC.condF (k := ?_)
  refine WC.skip ?_
  refine WX.seqN ?_
  refine WC.seq ?_
  refine WC.region ?_
  refine WL.op (d := 28) (.pointer (some ⟨b, 0, none⟩)) (k := ?_)
  refine WL.op (d := 29) (.string ⟨(l).toArray⟩) (k := ?_)
  refine WL.load (v := .agg #[.int .u64 (e : Int), .int .i64 r]) (ldN (T := 67) (i := 0) (m := 2) (l := [.int .u64 (e : Int), .int .i64 r]) hb13) (k := ?_)
  refine WL.callG (d := 31) (f := 34) (args := #[.pointer (some ⟨b, 0, none⟩), .string ⟨(l).toArray⟩, .agg #[.int .u64 (e : Int), .int .i64 r]]) (wlWrites_c (l := l) (e := e) (r := r) hb hd hnb (by omega) (by omega) (by omega) (by omega) (by omega) (by omega) (by omega)) (k := fun e_ w19 h_ => ?_)
  obtain ⟨rfl, S20, hd22, lk21, k23⟩ := h_
  refine ⟨_, rfl, ?_⟩
  have n24 : ¬ S20 b := fun h => (lk21 _ h).elim hnb (fun h2 => absurd (lt_of_heap hb) (Nat.not_lt.2 h2))
  have n25 : ¬ S20 b4 := fun h => (lk21 _ h).elim n11 (fun h2 => absurd (lt_of_heap hb13) (Nat.not_lt.2 h2))
  have lk26 := lk_step lk0 lk21 K
  replace hb := k23.heap hb hnb
  replace hb13 := k23.heap hb13 n11
  replace K := K.trans' k23 (fun i hi e => (lk0 i e).elim (fun h => .inr h) (fun h => absurd hi (Nat.not_lt.2 h)))
  clear hd
  refine WL.op (d := 6) (.int .i64 (GDisk.wrsE d (at_ + r) (makeS l e r.toNat))) (k := ?_)
  refine WL.nil ?_
  refine WX.seqN ?_
  refine WC.seq ?_
  refine WC.region ?_
  refine WL.op (d := 32) (.pointer (some ⟨b, 0, none⟩)) (k := ?_)
  refine WL.op (d := 33) (.agg #[]) (k := ?_)
  refine WL.op (d := 34) (.iface 56 (.agg #[])) (k := ?_)
  refine WL.op (d := 35) (.pointer (some ⟨b, 0, none⟩)) (k := ?_)
  refine WL.op (d := 36) (.pointer (some ⟨b, 3, none⟩)) (k := ?_)
  refine WL.store (v := .iface 56 (.agg #[])) (i := 3) (cs' := #[.pointer (some ⟨dk, 0, none⟩), .int .i64 at_, .int .i64 n, .iface 56 (.agg #[])]) hb (k := fun w27 hb28 k29 => ?_)
  replace hd22 := hd22.keeps k29 (fun i hi e => n24 (e ▸ hi))
  replace hb13 := k29.heap hb13 (Ne.symm n10)
  replace K := K.trans' k29 (fun i hi e => .inl e)
  clear hb
  refine WL.nil ?_
  refine WX.seqN ?_
  refine WC.seq ?_
  refine WC.seq ?_
  refine WC.region ?_
  refine WL.op (d := 37) (.int .i64 (GDisk.wrsE d (at_ + r) (makeS l e r.toNat))) (k := ?_)
  refine WL.op (d := 38) (.bool ((GDisk.wrsE d (at_ + r) (makeS l e r.toNat)) == 0)) (k := ?_)
  refine WL.nil ?_
  refine WX.seqN ?_
  refine WC.rw (t := 38) (v := .bool false) (congrArg Value.bool h3) (k := ?_)
  refine WC.condF (k := ?_)
  refine WC.skip ?_
  refine WX.seqN ?_
  refine WC.seq ?_
  refine WC.region ?_
  refine WL.op (d := 49) (.int .i64 (GDisk.wrsE d (at_ + r) (makeS l e r.toNat))) (k := ?_)
  refine WL.op (d := 4) (.int .i64 (GDisk.wrsE d (at_ + r) (makeS l e r.toNat))) (k := ?_)
  refine WL.nil ?_
  refine WX.seqN ?_
  refine WC.ret ?_
  refine WX.blockR ?_
  refine WX.seqR ?_
  refine WX.ret (rs := [.tmp 4]) [.int .i64 (GDisk.wrsE d (at_ + r) (makeS l e r.toNat))] (.int .i64 (GDisk.wrsE d (at_ + r) (makeS l e r.toNat))) ⟨(by kernel_rfl), trivial⟩ (k := ?_)
  exact ⟨by first | rfl | (rw [hE]; done), hb28, _, hd22, lk26, n24, K⟩
set_option maxRecDepth 100000 in
set_option maxHeartbeats 4000000 in
theorem wlAppend_full {S : Nat → Prop} {b dk : Nat} {d : GDisk} {at_ n : Int} {e : Nat} {r : Int} {w : World} (hb : w.heap[b]? = some (.cells #[.pointer (some ⟨dk, 0, none⟩), .int .i64 at_, .int .i64 n, .iface 67 (.agg #[.int .u64 (e : Int), .int .i64 r])] 60 (0, 0))) (hd : DiskAt S dk d w) (hnb : ¬ S b) {l : List UInt8} (hl : l.length ≤ 43) (hr : n ≤ r) : Calls Tryz.prog 18 #[.pointer (some ⟨b, 0, none⟩), .string ⟨l.toArray⟩] w fun e_ w' => e_ = .returned (.int .i64 22) ∧ Adds w w' := by
  have K : Keeps (fun _ => False) w w := Keeps.refl _ w
  have lk0 : ∀ k, S k → S k ∨ w.heap.size ≤ k := fun k h => .inl h
  have h1 : (decide ((l.length : Int) > 43)) = false := decide_eq_false (by omega)
  have ph1 := of_decide_eq_false h1
  have h2 : (decide (r ≥ n)) = true := decide_eq_true (by omega)
  have ph2 := of_decide_eq_true h2
  refine Calls.start Tryz.func18 rfl (by kernel_rfl) ?_
  refine WC.seq ?_
  refine WC.region ?_
  refine WL.op (d := 4) (.int .i64 0) (k := ?_)
  refine WL.nil ?_
  refine WX.seqN ?_
  refine WC.seq ?_
  refine WC.seq ?_
  refine WC.region ?_
  refine WL.op (d := 7) (.pointer (some ⟨b, 0, none⟩)) (k := ?_)
  refine WL.op (d := 8) (.bool false) (k := ?_)
  refine WL.op (d := 9) (.bool false) (k := ?_)
  refine WL.op (d := 10) (.string ⟨(l).toArray⟩) (k := ?_)
  refine WL.op (d := 11) (.int .i64 (l.length : Int)) (k := ?_)
  refine WL.op (d := 12) (.bool (decide ((l.length : Int) > 43))) (k := ?_)
  refine WL.op (d := 13) (.bool (decide ((l.length : Int) > 43))) (k := ?_)
  refine WL.nil ?_
  refine WX.seqN ?_
  refine WC.rw (t := 13) (v := .bool false) (congrArg Value.bool h1) (k := ?_)
  refine WC.condF (k := ?_)
  refine WC.skip ?_
  refine WX.seqN ?_
  refine WC.seq ?_
  refine WC.seq ?_
  refine WC.region ?_
  refine WL.op (d := 14) (.pointer (some ⟨b, 0, none⟩)) (k := ?_)
  refine WL.op (d := 15) (.pointer (some ⟨b, 0, none⟩)) (k := ?_)
  refine WL.op (d := 16) (.pointer (some ⟨b, 3, none⟩)) (k := ?_)
  refine WL.load (v := .iface 67 (.agg #[.int .u64 (e : Int), .int .i64 r])) (ld1 (T := 58) (i := 3) hb) (k := ?_)
  refine WL.nil ?_
  refine WX.seqN ?_
  refine WC.block ?_
  refine WC.seq ?_
  refine WC.region ?_
  refine WL.op (d := 18) (.tuple #[.agg #[.int .u64 (e : Int), .int .i64 r], .bool true]) (k := ?_)
  refine WL.op (d := 19) (.bool true) (k := ?_)
  refine WL.op (d := 20) (.agg #[.int .u64 (e : Int), .int .i64 r]) (k := ?_)
  refine WL.nil ?_
  refine WX.seqN ?_
  refine WC.condT (k := ?_)
  refine WC.seq ?_
  refine WC.region ?_
  refine WL.new (d := 5) (T := 67) #[.int .u64 0, .int .i64 0] (k := fun b3 w4 g5 hb6 k7 => ?_)
  have z8 := Nat.le_trans K.size g5
  have n9 : b ≠ b3 := Nat.ne_of_lt (Nat.lt_of_lt_of_le (lt_of_heap hb) g5)
  have n10 : ¬ S b3 := fun h => absurd (hd.lt _ h) (Nat.not_lt.2 g5)
  replace hb := k7.heap hb id
  replace hd := hd.adds k7
  replace K := K.trans (k7.any _)
  refine WL.store (v := .agg #[.int .u64 (e : Int), .int .i64 r]) (i := 0) (cs' := #[.int .u64 (e : Int), .int .i64 r]) hb6 (k := fun w11 hb12 k13 => ?_)
  replace hb := k13.heap hb n9
  replace hd := hd.keeps k13 (fun i hi e => n10 (e ▸ hi))
  replace K := K.trans' k13 (fun i hi e => absurd (e ▸ hi) (Nat.not_lt.2 z8))
  clear hb6
  refine WL.nil ?_
  refine WX.seqN ?_
  refine WC.seq ?_
  refine WC.seq ?_
  refine WC.mixed (fun _ => False) 7 (k := fun w14 k15 => ?_)
  replace hb := k15.heap hb id
  replace hd := hd.adds k15
  replace hb12 := k15.heap hb12 id
  replace K := K.trans (k15.any _)
  have KC := Keeps.refl (fun _ => False) w14
  have bh16 := hb
  have bh17 := hb12
  have Kb := K
  refine WA.quiet2 0 (d := 21) (.pointer (some ⟨b3, 1, none⟩)) KC (hi := rfl) (k := ?_)
  refine WA.quietR2 1 (d := 22) (.int .i64 r) KC (exec_load (fun w_ k_ => ld1 (T := 3) (i := 1) (k_.heap bh17 id))) (hi := rfl) (k := ?_)
  refine WA.quiet2 2 (d := 23) (.pointer (some ⟨b, 0, none⟩)) KC (hi := rfl) (k := ?_)
  refine WA.quiet2 3 (d := 24) (.pointer (some ⟨b, 0, none⟩)) KC (hi := rfl) (k := ?_)
  refine WA.quiet2 4 (d := 25) (.pointer (some ⟨b, 2, none⟩)) KC (hi := rfl) (k := ?_)
  refine WA.quietR2 5 (d := 26) (.int .i64 n) KC (exec_load (fun w_ k_ => ld1 (T := 3) (i := 2) (k_.heap bh16 id))) (hi := rfl) (k := ?_)
  refine WA.quiet2 6 (d := 27) (.bool (decide (r ≥ n))) KC (hi := rfl) (k := ?_)
  refine WA.done (k := ?_)
  clear KC
  refine WX.seqN ?_
  refine WC.rw (t := 27) (v := .bool true) (congrArg Value.bool h2) (k := ?_)
  refine WC.condT (k := ?_)
  refine WC.seq ?_
  refine WC.region ?_
  refine WL.op (d := 4) (.int .i64 22) (k := ?_)
  refine WL.nil ?_
  refine WX.seqN ?_
  refine WC.ret ?_
  refine WX.seqR ?_
  refine WX.blockR ?_
  refine WX.seqR ?_
  refine WX.ret (rs := [.tmp 4]) [.int .i64 22] (.int .i64 22) ⟨(by kernel_rfl), trivial⟩ (k := ?_)
  exact ⟨rfl, K⟩
set_option maxRecDepth 100000 in
set_option maxHeartbeats 4000000 in
theorem wlAppend_long {S : Nat → Prop} {b dk : Nat} {d : GDisk} {at_ n : Int} {stv : Value} {w : World} (hb : w.heap[b]? = some (.cells #[.pointer (some ⟨dk, 0, none⟩), .int .i64 at_, .int .i64 n, stv] 60 (0, 0))) (hd : DiskAt S dk d w) (hnb : ¬ S b) {l : List UInt8} (hl : 43 < l.length) : Calls Tryz.prog 18 #[.pointer (some ⟨b, 0, none⟩), .string ⟨l.toArray⟩] w fun e_ w' => e_ = .returned (.int .i64 1) ∧ Adds w w' := by
  have K : Keeps (fun _ => False) w w := Keeps.refl _ w
  have lk0 : ∀ k, S k → S k ∨ w.heap.size ≤ k := fun k h => .inl h
  have h1 : (decide ((l.length : Int) > 43)) = true := decide_eq_true (by omega)
  have ph1 := of_decide_eq_true h1
  refine Calls.start Tryz.func18 rfl (by kernel_rfl) ?_
  refine WC.seq ?_
  refine WC.region ?_
  refine WL.op (d := 4) (.int .i64 0) (k := ?_)
  refine WL.nil ?_
  refine WX.seqN ?_
  refine WC.seq ?_
  refine WC.seq ?_
  refine WC.region ?_
  refine WL.op (d := 7) (.pointer (some ⟨b, 0, none⟩)) (k := ?_)
  refine WL.op (d := 8) (.bool false) (k := ?_)
  refine WL.op (d := 9) (.bool false) (k := ?_)
  refine WL.op (d := 10) (.string ⟨(l).toArray⟩) (k := ?_)
  refine WL.op (d := 11) (.int .i64 (l.length : Int)) (k := ?_)
  refine WL.op (d := 12) (.bool (decide ((l.length : Int) > 43))) (k := ?_)
  refine WL.op (d := 13) (.bool (decide ((l.length : Int) > 43))) (k := ?_)
  refine WL.nil ?_
  refine WX.seqN ?_
  refine WC.rw (t := 13) (v := .bool true) (congrArg Value.bool h1) (k := ?_)
  refine WC.condT (k := ?_)
  refine WC.seq ?_
  refine WC.region ?_
  refine WL.op (d := 4) (.int .i64 1) (k := ?_)
  refine WL.nil ?_
  refine WX.seqN ?_
  refine WC.ret ?_
  refine WX.seqR ?_
  refine WX.ret (rs := [.tmp 4]) [.int .i64 1] (.int .i64 1) ⟨(by kernel_rfl), trivial⟩ (k := ?_)
  exact ⟨rfl, K⟩
set_option maxRecDepth 100000 in
set_option maxHeartbeats 4000000 in
theorem wlAppend_shut {S : Nat → Prop} {b dk : Nat} {d : GDisk} {at_ n : Int} {w : World} (hb : w.heap[b]? = some (.cells #[.pointer (some ⟨dk, 0, none⟩), .int .i64 at_, .int .i64 n, .iface 56 (.agg #[])] 60 (0, 0))) (hd : DiskAt S dk d w) (hnb : ¬ S b) {l : List UInt8} (hl : l.length ≤ 43) : Calls Tryz.prog 18 #[.pointer (some ⟨b, 0, none⟩), .string ⟨l.toArray⟩] w fun e_ w' => e_ = .returned (.int .i64 13) ∧ Adds w w' := by
  have K : Keeps (fun _ => False) w w := Keeps.refl _ w
  have lk0 : ∀ k, S k → S k ∨ w.heap.size ≤ k := fun k h => .inl h
  have h1 : (decide ((l.length : Int) > 43)) = false := decide_eq_false (by omega)
  have ph1 := of_decide_eq_false h1
  refine Calls.start Tryz.func18 rfl (by kernel_rfl) ?_
  refine WC.seq ?_
  refine WC.region ?_
  refine WL.op (d := 4) (.int .i64 0) (k := ?_)
  refine WL.nil ?_
  refine WX.seqN ?_
  refine WC.seq ?_
  refine WC.seq ?_
  refine WC.region ?_
  refine WL.op (d := 7) (.pointer (some ⟨b, 0, none⟩)) (k := ?_)
  refine WL.op (d := 8) (.bool false) (k := ?_)
  refine WL.op (d := 9) (.bool false) (k := ?_)
  refine WL.op (d := 10) (.string ⟨(l).toArray⟩) (k := ?_)
  refine WL.op (d := 11) (.int .i64 (l.length : Int)) (k := ?_)
  refine WL.op (d := 12) (.bool (decide ((l.length : Int) > 43))) (k := ?_)
  refine WL.op (d := 13) (.bool (decide ((l.length : Int) > 43))) (k := ?_)
  refine WL.nil ?_
  refine WX.seqN ?_
  refine WC.rw (t := 13) (v := .bool false) (congrArg Value.bool h1) (k := ?_)
  refine WC.condF (k := ?_)
  refine WC.skip ?_
  refine WX.seqN ?_
  refine WC.seq ?_
  refine WC.seq ?_
  refine WC.region ?_
  refine WL.op (d := 14) (.pointer (some ⟨b, 0, none⟩)) (k := ?_)
  refine WL.op (d := 15) (.pointer (some ⟨b, 0, none⟩)) (k := ?_)
  refine WL.op (d := 16) (.pointer (some ⟨b, 3, none⟩)) (k := ?_)
  refine WL.load (v := .iface 56 (.agg #[])) (ld1 (T := 58) (i := 3) hb) (k := ?_)
  refine WL.nil ?_
  refine WX.seqN ?_
  refine WC.block ?_
  refine WC.seq ?_
  refine WC.region ?_
  refine WL.op (d := 18) (.tuple #[.agg #[.int .u64 0, .int .i64 0], .bool false]) (k := ?_)
  refine WL.op (d := 19) (.bool false) (k := ?_)
  refine WL.op (d := 20) (.agg #[.int .u64 0, .int .i64 0]) (k := ?_)
  refine WL.nil ?_
  refine WX.seqN ?_
  refine WC.condF (k := ?_)
  refine WC.skip ?_
  refine WX.blockN ?_
  refine WX.seqN ?_
  refine WC.seq ?_
  refine WC.region ?_
  refine WL.op (d := 4) (.int .i64 13) (k := ?_)
  refine WL.nil ?_
  refine WX.seqN ?_
  refine WC.ret ?_
  refine WX.ret (rs := [.tmp 4]) [.int .i64 13] (.int .i64 13) ⟨(by kernel_rfl), trivial⟩ (k := ?_)
  exact ⟨rfl, K⟩
set_option maxRecDepth 100000 in
set_option maxHeartbeats 4000000 in
theorem wlStart_ok {e : Nat} {stv : Value} {b : Nat} {v0 v1 v2 : Value} {w : World} (hb : w.heap[b]? = some (.cells #[v0, v1, v2, stv] 60 (0, 0))) (he : ¬ e = 0) : Calls Tryz.prog 12 #[.pointer (some ⟨b, 0, none⟩), .int .u64 (e : Int)] w fun e_ w' => e_ = .returned (.int .i64 0) ∧ w'.heap[b]? = some (.cells #[v0, v1, v2, .iface 67 (.agg #[.int .u64 (e : Int), .int .i64 0])] 60 (0, 0)) ∧ Keeps (fun k => k = b) w w' := by
  have K : Keeps (fun k => k = b) w w := Keeps.refl _ w
  have h1 : (((e : Nat) : Int) == 0) = false := beq_eq_false_iff_ne.2 (by omega)
  have ph1 := ne_of_beq_false h1
  refine Calls.start Tryz.func12 rfl (by kernel_rfl) ?_
  refine WC.seq ?_
  refine WC.region ?_
  refine WL.op (d := 4) (.int .i64 0) (k := ?_)
  refine WL.nil ?_
  refine WX.seqN ?_
  refine WC.seq ?_
  refine WC.seq ?_
  refine WC.region ?_
  refine WL.op (d := 5) (.pointer (some ⟨b, 0, none⟩)) (k := ?_)
  refine WL.op (d := 6) (.bool false) (k := ?_)
  refine WL.op (d := 7) (.bool false) (k := ?_)
  refine WL.op (d := 8) (.int .u64 ((e : Nat) : Int)) (k := ?_)
  refine WL.op (d := 9) (.bool (((e : Nat) : Int) == 0)) (k := ?_)
  refine WL.op (d := 10) (.bool (((e : Nat) : Int) == 0)) (k := ?_)
  refine WL.nil ?_
  refine WX.seqN ?_
  refine WC.rw (t := 10) (v := .bool false) (congrArg Value.bool h1) (k := ?_)
  refine WC.condF (k := ?_)
  refine WC.skip ?_
  refine WX.seqN ?_
  refine WC.seq ?_
  refine WC.region ?_
  refine WL.op (d := 11) (.pointer (some ⟨b, 0, none⟩)) (k := ?_)
  refine WL.op (d := 12) (.int .u64 ((e : Nat) : Int)) (k := ?_)
  refine WL.op (d := 13) (.agg #[.int .u64 ((e : Nat) : Int), .int .i64 0]) (k := ?_)
  refine WL.op (d := 14) (.iface 67 (.agg #[.int .u64 ((e : Nat) : Int), .int .i64 0])) (k := ?_)
  refine WL.op (d := 15) (.pointer (some ⟨b, 0, none⟩)) (k := ?_)
  refine WL.op (d := 16) (.pointer (some ⟨b, 3, none⟩)) (k := ?_)
  refine WL.store (v := .iface 67 (.agg #[.int .u64 ((e : Nat) : Int), .int .i64 0])) (i := 3) (cs' := #[v0, v1, v2, .iface 67 (.agg #[.int .u64 ((e : Nat) : Int), .int .i64 0])]) hb (k := fun w2 hb3 k4 => ?_)
  replace K := K.trans' k4 (fun i hi e => e)
  clear hb
  refine WL.nil ?_
  refine WX.seqN ?_
  refine WC.seq ?_
  refine WC.region ?_
  refine WL.op (d := 4) (.int .i64 0) (k := ?_)
  refine WL.nil ?_
  refine WX.seqN ?_
  refine WC.ret ?_
  refine WX.ret (rs := [.tmp 4]) [.int .i64 0] (.int .i64 0) ⟨(by kernel_rfl), trivial⟩ (k := ?_)
  exact ⟨rfl, hb3, K⟩
set_option maxRecDepth 100000 in
set_option maxHeartbeats 4000000 in
theorem wlStart_zero {b : Nat} {w : World} : Calls Tryz.prog 12 #[.pointer (some ⟨b, 0, none⟩), .int .u64 0] w fun e_ w' => e_ = .returned (.int .i64 1) ∧ Adds w w' := by
  have K : Keeps (fun _ => False) w w := Keeps.refl _ w
  refine Calls.start Tryz.func12 rfl (by kernel_rfl) ?_
  refine WC.seq ?_
  refine WC.region ?_
  refine WL.op (d := 4) (.int .i64 0) (k := ?_)
  refine WL.nil ?_
  refine WX.seqN ?_
  refine WC.seq ?_
  refine WC.seq ?_
  refine WC.region ?_
  refine WL.op (d := 5) (.pointer (some ⟨b, 0, none⟩)) (k := ?_)
  refine WL.op (d := 6) (.bool false) (k := ?_)
  refine WL.op (d := 7) (.bool false) (k := ?_)
  refine WL.op (d := 8) (.int .u64 0) (k := ?_)
  refine WL.op (d := 9) (.bool true) (k := ?_)
  refine WL.op (d := 10) (.bool true) (k := ?_)
  refine WL.nil ?_
  refine WX.seqN ?_
  refine WC.condT (k := ?_)
  refine WC.seq ?_
  refine WC.region ?_
  refine WL.op (d := 4) (.int .i64 1) (k := ?_)
  refine WL.nil ?_
  refine WX.seqN ?_
  refine WC.ret ?_
  refine WX.seqR ?_
  refine WX.ret (rs := [.tmp 4]) [.int .i64 1] (.int .i64 1) ⟨(by kernel_rfl), trivial⟩ (k := ?_)
  exact ⟨rfl, K⟩
set_option maxRecDepth 100000 in
set_option maxHeartbeats 4000000 in
theorem wlLen_open {e : Nat} {r n : Int} {b : Nat} {v0 v1 : Value} {w : World} (hb : w.heap[b]? = some (.cells #[v0, v1, .int .i64 n, .iface 67 (.agg #[.int .u64 (e : Int), .int .i64 r])] 60 (0, 0))) : Calls Tryz.prog 23 #[.pointer (some ⟨b, 0, none⟩)] w fun e_ w' => e_ = .returned (.int .i64 r) ∧ Adds w w' := by
  have K : Keeps (fun _ => False) w w := Keeps.refl _ w
  refine Calls.start Tryz.func23 rfl (by kernel_rfl) ?_
  refine WC.seq ?_
  refine WC.region ?_
  refine WL.op (d := 2) (.int .i64 0) (k := ?_)
  refine WL.nil ?_
  refine WX.seqN ?_
  refine WC.seq ?_
  refine WC.seq ?_
  refine WC.region ?_
  refine WL.op (d := 4) (.pointer (some ⟨b, 0, none⟩)) (k := ?_)
  refine WL.op (d := 5) (.bool false) (k := ?_)
  refine WL.nil ?_
  refine WX.seqN ?_
  refine WC.condF (k := ?_)
  refine WC.skip ?_
  refine WX.seqN ?_
  refine WC.seq ?_
  refine WC.seq ?_
  refine WC.region ?_
  refine WL.op (d := 6) (.pointer (some ⟨b, 0, none⟩)) (k := ?_)
  refine WL.op (d := 7) (.pointer (some ⟨b, 0, none⟩)) (k := ?_)
  refine WL.op (d := 8) (.pointer (some ⟨b, 3, none⟩)) (k := ?_)
  refine WL.load (v := .iface 67 (.agg #[.int .u64 (e : Int), .int .i64 r])) (ld1 (T := 58) (i := 3) hb) (k := ?_)
  refine WL.nil ?_
  refine WX.seqN ?_
  refine WC.block ?_
  refine WC.seq ?_
  refine WC.region ?_
  refine WL.op (d := 10) (.tuple #[.agg #[.int .u64 (e : Int), .int .i64 r], .bool true]) (k := ?_)
  refine WL.op (d := 11) (.bool true) (k := ?_)
  refine WL.op (d := 12) (.agg #[.int .u64 (e : Int), .int .i64 r]) (k := ?_)
  refine WL.nil ?_
  refine WX.seqN ?_
  refine WC.condT (k := ?_)
  refine WC.seq ?_
  refine WC.region ?_
  refine WL.new (d := 3) (T := 67) #[.int .u64 0, .int .i64 0] (k := fun b1 w2 g3 hb4 k5 => ?_)
  have z6 := Nat.le_trans K.size g3
  have n7 : b ≠ b1 := Nat.ne_of_lt (Nat.lt_of_lt_of_le (lt_of_heap hb) g3)
  replace hb := k5.heap hb id
  replace K := K.trans (k5.any _)
  refine WL.store (v := .agg #[.int .u64 (e : Int), .int .i64 r]) (i := 0) (cs' := #[.int .u64 (e : Int), .int .i64 r]) hb4 (k := fun w8 hb9 k10 => ?_)
  replace hb := k10.heap hb n7
  replace K := K.trans' k10 (fun i hi e => absurd (e ▸ hi) (Nat.not_lt.2 z6))
  clear hb4
  refine WL.nil ?_
  refine WX.seqN ?_
  refine WC.seq ?_
  refine WC.region ?_
  refine WL.op (d := 13) (.pointer (some ⟨b1, 1, none⟩)) (k := ?_)
  refine WL.load (v := .int .i64 r) (ld1 (T := 3) (i := 1) hb9) (k := ?_)
  refine WL.op (d := 2) (.int .i64 r) (k := ?_)
  refine WL.nil ?_
  refine WX.seqN ?_
  refine WC.ret ?_
  refine WX.blockR ?_
  refine WX.seqR ?_
  refine WX.ret (rs := [.tmp 2]) [.int .i64 r] (.int .i64 r) ⟨(by kernel_rfl), trivial⟩ (k := ?_)
  exact ⟨rfl, K⟩
set_option maxRecDepth 100000 in
set_option maxHeartbeats 4000000 in
theorem wlLen_shut {n : Int} {b : Nat} {v0 v1 : Value} {w : World} (hb : w.heap[b]? = some (.cells #[v0, v1, .int .i64 n, .iface 56 (.agg #[])] 60 (0, 0))) : Calls Tryz.prog 23 #[.pointer (some ⟨b, 0, none⟩)] w fun e_ w' => e_ = .returned (.int .i64 0) ∧ Adds w w' := by
  have K : Keeps (fun _ => False) w w := Keeps.refl _ w
  refine Calls.start Tryz.func23 rfl (by kernel_rfl) ?_
  refine WC.seq ?_
  refine WC.region ?_
  refine WL.op (d := 2) (.int .i64 0) (k := ?_)
  refine WL.nil ?_
  refine WX.seqN ?_
  refine WC.seq ?_
  refine WC.seq ?_
  refine WC.region ?_
  refine WL.op (d := 4) (.pointer (some ⟨b, 0, none⟩)) (k := ?_)
  refine WL.op (d := 5) (.bool false) (k := ?_)
  refine WL.nil ?_
  refine WX.seqN ?_
  refine WC.condF (k := ?_)
  refine WC.skip ?_
  refine WX.seqN ?_
  refine WC.seq ?_
  refine WC.seq ?_
  refine WC.region ?_
  refine WL.op (d := 6) (.pointer (some ⟨b, 0, none⟩)) (k := ?_)
  refine WL.op (d := 7) (.pointer (some ⟨b, 0, none⟩)) (k := ?_)
  refine WL.op (d := 8) (.pointer (some ⟨b, 3, none⟩)) (k := ?_)
  refine WL.load (v := .iface 56 (.agg #[])) (ld1 (T := 58) (i := 3) hb) (k := ?_)
  refine WL.nil ?_
  refine WX.seqN ?_
  refine WC.block ?_
  refine WC.seq ?_
  refine WC.region ?_
  refine WL.op (d := 10) (.tuple #[.agg #[.int .u64 0, .int .i64 0], .bool false]) (k := ?_)
  refine WL.op (d := 11) (.bool false) (k := ?_)
  refine WL.op (d := 12) (.agg #[.int .u64 0, .int .i64 0]) (k := ?_)
  refine WL.nil ?_
  refine WX.seqN ?_
  refine WC.condF (k := ?_)
  refine WC.skip ?_
  refine WX.blockN ?_
  refine WX.seqN ?_
  refine WC.seq ?_
  refine WC.region ?_
  refine WL.op (d := 2) (.int .i64 0) (k := ?_)
  refine WL.nil ?_
  refine WX.seqN ?_
  refine WC.ret ?_
  refine WX.ret (rs := [.tmp 2]) [.int .i64 0] (.int .i64 0) ⟨(by kernel_rfl), trivial⟩ (k := ?_)
  exact ⟨rfl, K⟩
set_option maxRecDepth 100000 in
set_option maxHeartbeats 4000000 in
theorem wlLeft_open {e : Nat} {r n : Int} {b : Nat} {v0 v1 : Value} {w : World} (hb : w.heap[b]? = some (.cells #[v0, v1, .int .i64 n, .iface 67 (.agg #[.int .u64 (e : Int), .int .i64 r])] 60 (0, 0))) (hn : 0 ≤ n ∧ n ≤ 1024) (hr : 0 ≤ r ∧ r ≤ 1024) : Calls Tryz.prog 21 #[.pointer (some ⟨b, 0, none⟩)] w fun e_ w' => e_ = .returned (.int .i64 (n - r)) ∧ Adds w w' := by
  have K : Keeps (fun _ => False) w w := Keeps.refl _ w
  refine Calls.start Tryz.func21 rfl (by kernel_rfl) ?_
  refine WC.seq ?_
  refine WC.region ?_
  refine WL.op (d := 2) (.int .i64 0) (k := ?_)
  refine WL.nil ?_
  refine WX.seqN ?_
  refine WC.seq ?_
  refine WC.seq ?_
  refine WC.region ?_
  refine WL.op (d := 3) (.pointer (some ⟨b, 0, none⟩)) (k := ?_)
  refine WL.op (d := 4) (.bool false) (k := ?_)
  refine WL.nil ?_
  refine WX.seqN ?_
  refine WC.condF (k := ?_)
  refine WC.skip ?_
  refine WX.seqN ?_
  refine WC.seq ?_
  refine WC.seq ?_
  refine WC.region ?_
  refine WL.op (d := 5) (.pointer (some ⟨b, 0, none⟩)) (k := ?_)
  refine WL.op (d := 6) (.pointer (some ⟨b, 0, none⟩)) (k := ?_)
  refine WL.op (d := 7) (.pointer (some ⟨b, 3, none⟩)) (k := ?_)
  refine WL.load (v := .iface 67 (.agg #[.int .u64 (e : Int), .int .i64 r])) (ld1 (T := 58) (i := 3) hb) (k := ?_)
  refine WL.nil ?_
  refine WX.seqN ?_
  refine WC.block ?_
  refine WC.seq ?_
  refine WC.region ?_
  refine WL.op (d := 9) (.tuple #[.agg #[.int .u64 (e : Int), .int .i64 r], .bool true]) (k := ?_)
  refine WL.op (d := 10) (.bool true) (k := ?_)
  refine WL.op (d := 11) (.agg #[.int .u64 (e : Int), .int .i64 r]) (k := ?_)
  refine WL.nil ?_
  refine WX.seqN ?_
  refine WC.condT (k := ?_)
  refine WC.seq ?_
  refine WC.quiet (k := ?_)
  refine WQ.op (d := 12) (.pointer (some ⟨b, 0, none⟩)) (k := ?_)
  refine WQ.op (d := 13) (.pointer (some ⟨b, 0, none⟩)) (k := ?_)
  refine WQ.op (d := 14) (.pointer (some ⟨b, 2, none⟩)) (k := ?_)
  refine WQ.load (v := .int .i64 n) (fun w_ k_ => ld1 (T := 3) (i := 2) (k_.heap hb id)) (k := ?_)
  refine WQ.op (d := 16) (.pointer (some ⟨b, 0, none⟩)) (k := ?_)
  refine WQ.callG (d := 17) (f := 23) (args := #[.pointer (some ⟨b, 0, none⟩)]) (v := .int .i64 r) (fun w_ k_ => wlLen_open (k_.heap hb id)) addsR (k := ?_)
  refine WQ.opE (d := 18) (.int .i64 (IntKind.i64.wrap (n - r))) (v := .int .i64 (n - r)) (congrArg (Value.int .i64) (IntWalk.i64_in _ (by omega))) (k := ?_)
  refine WQ.op (d := 2) (.int .i64 (n - r)) (k := ?_)
  refine WQ.nilX (fun w1 k2 => ?_)
  replace hb := k2.heap hb id
  replace K := K.trans (k2.any _)
  refine WX.seqN ?_
  refine WC.ret ?_
  refine WX.blockR ?_
  refine WX.seqR ?_
  refine WX.ret (rs := [.tmp 2]) [.int .i64 (n - r)] (.int .i64 (n - r)) ⟨(by kernel_rfl), trivial⟩ (k := ?_)
  exact ⟨rfl, K⟩
set_option maxRecDepth 100000 in
set_option maxHeartbeats 4000000 in
theorem wlLeft_shut {n : Int} {b : Nat} {v0 v1 : Value} {w : World} (hb : w.heap[b]? = some (.cells #[v0, v1, .int .i64 n, .iface 56 (.agg #[])] 60 (0, 0))) : Calls Tryz.prog 21 #[.pointer (some ⟨b, 0, none⟩)] w fun e_ w' => e_ = .returned (.int .i64 0) ∧ Adds w w' := by
  have K : Keeps (fun _ => False) w w := Keeps.refl _ w
  refine Calls.start Tryz.func21 rfl (by kernel_rfl) ?_
  refine WC.seq ?_
  refine WC.region ?_
  refine WL.op (d := 2) (.int .i64 0) (k := ?_)
  refine WL.nil ?_
  refine WX.seqN ?_
  refine WC.seq ?_
  refine WC.seq ?_
  refine WC.region ?_
  refine WL.op (d := 3) (.pointer (some ⟨b, 0, none⟩)) (k := ?_)
  refine WL.op (d := 4) (.bool false) (k := ?_)
  refine WL.nil ?_
  refine WX.seqN ?_
  refine WC.condF (k := ?_)
  refine WC.skip ?_
  refine WX.seqN ?_
  refine WC.seq ?_
  refine WC.seq ?_
  refine WC.region ?_
  refine WL.op (d := 5) (.pointer (some ⟨b, 0, none⟩)) (k := ?_)
  refine WL.op (d := 6) (.pointer (some ⟨b, 0, none⟩)) (k := ?_)
  refine WL.op (d := 7) (.pointer (some ⟨b, 3, none⟩)) (k := ?_)
  refine WL.load (v := .iface 56 (.agg #[])) (ld1 (T := 58) (i := 3) hb) (k := ?_)
  refine WL.nil ?_
  refine WX.seqN ?_
  refine WC.block ?_
  refine WC.seq ?_
  refine WC.region ?_
  refine WL.op (d := 9) (.tuple #[.agg #[.int .u64 0, .int .i64 0], .bool false]) (k := ?_)
  refine WL.op (d := 10) (.bool false) (k := ?_)
  refine WL.op (d := 11) (.agg #[.int .u64 0, .int .i64 0]) (k := ?_)
  refine WL.nil ?_
  refine WX.seqN ?_
  refine WC.condF (k := ?_)
  refine WC.skip ?_
  refine WX.blockN ?_
  refine WX.seqN ?_
  refine WC.seq ?_
  refine WC.region ?_
  refine WL.op (d := 2) (.int .i64 0) (k := ?_)
  refine WL.nil ?_
  refine WX.seqN ?_
  refine WC.ret ?_
  refine WX.ret (rs := [.tmp 2]) [.int .i64 0] (.int .i64 0) ⟨(by kernel_rfl), trivial⟩ (k := ?_)
  exact ⟨rfl, K⟩
end Go.Proofs.YtnkkbeafcfjkmaaGreatDoor
namespace Go.Proofs.YtnkkbeafcfjkmaaGreatDoor
open Go.RowKit
set_option linter.unusedVariables false
set_option linter.unusedSimpArgs false
theorem blk_ne {b c : Nat} {cs cs' : Array Value} {T T' : TypeId} {fz fz' : Nat × Nat} {w : World} (hb : w.heap[b]? = some (.cells cs T fz)) (hc : w.heap[c]? = some (.cells cs' T' fz')) (hT : T ≠ T') : b ≠ c := fun e => by
  subst e; rw [hb] at hc; cases hc; exact hT rfl
def scanGo (at_ : Int) (e : Nat) : Nat → GDisk → List (List UInt8) → List (List UInt8) × Int × GDisk
  | 0, d, out => (out, 0, d)
  | f + 1, d, out => if d.recP (at_ + (out.length : Int)) e (out.length : Int).toNat then scanGo at_ e f (d.readD (at_ + (out.length : Int))) (out ++ [d.recT (at_ + (out.length : Int)) e (out.length : Int).toNat]) else (out, d.readE (at_ + (out.length : Int)), d.readD (at_ + (out.length : Int)))
section
variable {at_ n : Int} {e : Nat} {d di : GDisk} {out : List (List UInt8)} {R : List (List UInt8) × Int × GDisk}
theorem scan_end (h : R = scanGo at_ e (n.toNat - out.length) di out) (hl : n ≤ (out.length : Int)) : R = (out, 0, di) := by
  rw [h, show n.toNat - out.length = 0 by omega]; rfl
theorem scan_stop (h : R = scanGo at_ e (n.toNat - out.length) di out) (hl : (out.length : Int) < n) (hr : ¬ di.recP (at_ + (out.length : Int)) e (out.length : Int).toNat) : R = (out, di.readE (at_ + (out.length : Int)), di.readD (at_ + (out.length : Int))) := by
  obtain ⟨k, hk⟩ : ∃ k, n.toNat - out.length = k + 1 := ⟨n.toNat - out.length - 1, by omega⟩
  rw [h, hk, scanGo, if_neg hr]
theorem scan_go (h : R = scanGo at_ e (n.toNat - out.length) di out) (hl : (out.length : Int) < n) (hr : di.recP (at_ + (out.length : Int)) e (out.length : Int).toNat) : R = scanGo at_ e (n.toNat - (out ++ [di.recT (at_ + (out.length : Int)) e (out.length : Int).toNat]).length) (di.readD (at_ + (out.length : Int))) (out ++ [di.recT (at_ + (out.length : Int)) e (out.length : Int).toNat]) := by
  obtain ⟨k, hk⟩ : ∃ k, n.toNat - out.length = k + 1 := ⟨n.toNat - out.length - 1, by omega⟩
  rw [h, hk, scanGo, if_pos hr, List.length_append, List.length_singleton, show n.toNat - (out.length + 1) = k by omega]
end
set_option maxRecDepth 100000 in
set_option maxHeartbeats 4000000 in
theorem wlScan1_ok {S : Nat → Prop} {b dk b2 b3 b6 b7 : Nat} {d : GDisk} {at_ n bad : Int} {stv : Value} {e : Nat} {A : Option Addr} {c : Nat} {out : List (List UInt8)} {w : World} (hb : w.heap[b]? = some (.cells #[.pointer (some ⟨dk, 0, none⟩), .int .i64 at_, .int .i64 n, stv] 60 (0, 0))) (hd : DiskAt S dk d w) (h2 : w.heap[b2]? = some (.cells #[.pointer (some ⟨b, 0, none⟩)] 26 (0, 0))) (h3 : w.heap[b3]? = some (.cells #[.int .u64 (e : Int)] 32 (0, 0))) (h6 : w.heap[b6]? = some (.cells #[.slice A out.length c] 36 (0, 0))) (h7 : w.heap[b7]? = some (.cells #[.int .i64 bad] 37 (0, 0))) (ho : OwAt strC 1 9 A c out w) (hnb : ¬ S b) (m2 : ¬ S b2) (m3 : ¬ S b3) (m6 : ¬ S b6) (m7 : ¬ S b7) (mA : ∀ i, blk A = some i → ¬ S i) (a0 : 0 ≤ at_) (a1 : at_ ≤ 1024) (lo : out.length ≤ 1023) (hR : GDisk.recP d (at_ + (out.length : Int)) e (out.length : Int).toNat) : Calls Tryz.prog 28 #[.pointer (some ⟨b2, 0, none⟩), .pointer (some ⟨b3, 0, none⟩), .pointer (some ⟨b6, 0, none⟩), .pointer (some ⟨b7, 0, none⟩)] w fun e_ w' => ∃ A' c', e_ = .returned (.bool true) ∧ w'.heap[b]? = some (.cells #[.pointer (some ⟨dk, 0, none⟩), .int .i64 at_, .int .i64 n, stv] 60 (0, 0)) ∧ w'.heap[b2]? = some (.cells #[.pointer (some ⟨b, 0, none⟩)] 26 (0, 0)) ∧ w'.heap[b3]? = some (.cells #[.int .u64 (e : Int)] 32 (0, 0)) ∧ w'.heap[b6]? = some (.cells #[.slice A' (out ++ [GDisk.recT d (at_ + (out.length : Int)) e (out.length : Int).toNat]).length c'] 36 (0, 0)) ∧ w'.heap[b7]? = some (.cells #[.int .i64 (GDisk.readE d (at_ + (out.length : Int)))] 37 (0, 0)) ∧ OwAt strC 1 9 A' c' (out ++ [GDisk.recT d (at_ + (out.length : Int)) e (out.length : Int).toNat]) w' ∧ DiskAt S dk (GDisk.readD d (at_ + (out.length : Int))) w' ∧ (blk A' = blk A ∨ ∃ k, blk A' = some k ∧ w.heap.size ≤ k) ∧ Keeps (fun k => k = b7 ∨ k = b6 ∨ blk A = some k ∨ S k) w w' := by
  have K : Keeps (fun k => k = b7 ∨ k = b6 ∨ blk A = some k ∨ S k) w w := Keeps.refl _ w
  have ne1 : b ≠ b2 := blk_ne hb h2 (by decide)
  have ne2 : b ≠ b3 := blk_ne hb h3 (by decide)
  have ne3 : b ≠ b6 := blk_ne hb h6 (by decide)
  have ne4 : b ≠ b7 := blk_ne hb h7 (by decide)
  have ne5 : b2 ≠ b3 := blk_ne h2 h3 (by decide)
  have ne6 : b2 ≠ b6 := blk_ne h2 h6 (by decide)
  have ne7 : b2 ≠ b7 := blk_ne h2 h7 (by decide)
  have ne8 : b3 ≠ b6 := blk_ne h3 h6 (by decide)
  have ne9 : b3 ≠ b7 := blk_ne h3 h7 (by decide)
  have ne10 : b6 ≠ b7 := blk_ne h6 h7 (by decide)
  have lk0 : ∀ k, S k → S k ∨ w.heap.size ≤ k := fun k h => .inl h
  have h11 : (decide (GDisk.recP d (at_ + (out.length : Int)) e (out.length : Int).toNat)) = true := decide_eq_true hR
  have ph11 := of_decide_eq_true h11
  refine Calls.start Tryz.func28 rfl (by kernel_rfl) ?_
  refine WC.seq ?_
  refine WC.region ?_
  refine WL.op (d := 4) (.bool false) (k := ?_)
  refine WL.nil ?_
  refine WX.seqN ?_
  refine WC.seq ?_
  refine WC.region ?_
  refine WL.load (v := .pointer (some ⟨b, 0, none⟩)) (ld1 (T := 26) (i := 0) h2) (k := ?_)
  refine WL.load (v := .int .u64 ((e : Nat) : Int)) (ld1 (T := 32) (i := 0) h3) (k := ?_)
  refine WL.load (v := .slice A out.length c) (ld1 (T := 36) (i := 0) h6) (k := ?_)
  refine WL.op (d := 12) (.int .i64 (out.length : Int)) (k := ?_)
  refine WL.callG (d := 13) (f := 29) (args := #[.pointer (some ⟨b, 0, none⟩), .int .u64 ((e : Nat) : Int), .int .i64 (out.length : Int)]) (wlRecord_c (e := e) (i := (out.length : Int)) hb hd hnb (by omega) (by omega) (by omega) (by omega)) (k := fun e_ w13 h_ => ?_)
  obtain ⟨rfl, hd14, k15⟩ := h_
  refine ⟨_, rfl, ?_⟩
  replace hb := k15.heap hb hnb
  replace h2 := k15.heap h2 m2
  replace h3 := k15.heap h3 m3
  replace h6 := k15.heap h6 m6
  replace h7 := k15.heap h7 m7
  replace ho := ho.keeps k15 mA
  replace K := K.trans' k15 (fun i hi e => (lk0 i e).elim (fun h => .inr (.inr (.inr h))) (fun h => absurd hi (Nat.not_lt.2 h)))
  clear hd
  have rl12 := GDisk.recT_len (d := d) (a := (at_ + (out.length : Int))) (e := e) (i := (out.length : Int).toNat)
  refine WL.op (d := 8) (.tuple #[.string ⟨(GDisk.recT d (at_ + (out.length : Int)) e (out.length : Int).toNat).toArray⟩, .bool (decide (GDisk.recP d (at_ + (out.length : Int)) e (out.length : Int).toNat)), .int .i64 (GDisk.readE d (at_ + (out.length : Int)))]) (k := ?_)
  refine WL.op (d := 14) (.string ⟨(GDisk.recT d (at_ + (out.length : Int)) e (out.length : Int).toNat).toArray⟩) (k := ?_)
  refine WL.op (d := 15) (.bool (decide (GDisk.recP d (at_ + (out.length : Int)) e (out.length : Int).toNat))) (k := ?_)
  refine WL.op (d := 16) (.int .i64 (GDisk.readE d (at_ + (out.length : Int)))) (k := ?_)
  refine WL.op (d := 5) (.string ⟨(GDisk.recT d (at_ + (out.length : Int)) e (out.length : Int).toNat).toArray⟩) (k := ?_)
  refine WL.op (d := 6) (.bool (decide (GDisk.recP d (at_ + (out.length : Int)) e (out.length : Int).toNat))) (k := ?_)
  refine WL.op (d := 7) (.int .i64 (GDisk.readE d (at_ + (out.length : Int)))) (k := ?_)
  refine WL.nil ?_
  refine WX.seqN ?_
  refine WC.seq ?_
  refine WC.region ?_
  refine WL.op (d := 17) (.int .i64 (GDisk.readE d (at_ + (out.length : Int)))) (k := ?_)
  refine WL.store (v := .int .i64 (GDisk.readE d (at_ + (out.length : Int)))) (i := 0) (cs' := #[.int .i64 (GDisk.readE d (at_ + (out.length : Int)))]) h7 (k := fun w16 hb17 k18 => ?_)
  replace hb := k18.heap hb ne4
  replace h2 := k18.heap h2 ne7
  replace h3 := k18.heap h3 ne9
  replace h6 := k18.heap h6 ne10
  replace ho := ho.keeps k18 (fun i hi e => (ho.offT h7 (by decide)) (e ▸ hi))
  replace hd14 := hd14.keeps k18 (fun i hi e => m7 (e ▸ hi))
  replace K := K.trans' k18 (fun i hi e => .inl e)
  clear h7
  refine WL.nil ?_
  refine WX.seqN ?_
  refine WC.seq ?_
  refine WC.seq ?_
  refine WC.region ?_
  refine WL.op (d := 18) (.bool (decide (GDisk.recP d (at_ + (out.length : Int)) e (out.length : Int).toNat))) (k := ?_)
  refine WL.nil ?_
  refine WX.seqN ?_
  refine WC.rw (t := 18) (v := .bool true) (congrArg Value.bool h11) (k := ?_)
  refine WC.condT (k := ?_)
  refine WC.region ?_
  refine WL.load (v := .slice A out.length c) (ld1 (T := 36) (i := 0) h6) (k := ?_)
  refine WL.op (d := 20) (.string ⟨(GDisk.recT d (at_ + (out.length : Int)) e (out.length : Int).toNat).toArray⟩) (k := ?_)
  refine WL.newF (d := 21) (T := 9) #[.string ⟨(GDisk.recT d (at_ + (out.length : Int)) e (out.length : Int).toNat).toArray⟩] (fun b => .slice (some ⟨b, 0, none⟩) 1 1) (k := fun b19 w20 g21 hb22 k23 => ?_)
  have z24 := Nat.le_trans K.size g21
  have n25 : b ≠ b19 := Nat.ne_of_lt (Nat.lt_of_lt_of_le (lt_of_heap hb) g21)
  have n26 : b2 ≠ b19 := Nat.ne_of_lt (Nat.lt_of_lt_of_le (lt_of_heap h2) g21)
  have n27 : b3 ≠ b19 := Nat.ne_of_lt (Nat.lt_of_lt_of_le (lt_of_heap h3) g21)
  have n28 : b6 ≠ b19 := Nat.ne_of_lt (Nat.lt_of_lt_of_le (lt_of_heap h6) g21)
  have n29 : b7 ≠ b19 := Nat.ne_of_lt (Nat.lt_of_lt_of_le (lt_of_heap hb17) g21)
  have n30 := OwAt.off_new ho g21
  have n31 : ¬ S b19 := fun h => absurd (hd14.lt _ h) (Nat.not_lt.2 g21)
  replace hb := k23.heap hb id
  replace h2 := k23.heap h2 id
  replace h3 := k23.heap h3 id
  replace h6 := k23.heap h6 id
  replace hb17 := k23.heap hb17 id
  replace ho := ho.adds k23
  replace hd14 := hd14.adds k23
  replace K := K.trans (k23.any _)
  refine WL.append (d := 22) (T := 36) (cl := strC) (xs := out) (ys := [GDisk.recT d (at_ + (out.length : Int)) e (out.length : Int).toNat]) (c := 1) ekStr ho (SlAt.of_lit (ys := [GDisk.recT d (at_ + (out.length : Int)) e (out.length : Int).toNat]) ekStr hb22 (by kernel_rfl)) (by first | omega | (simp; omega)) (k := fun A32 c33 w34 ho35 k36 n37 => ?_)
  have ol38 := nlink_up K n37
  have n39 := fp_step n37 mA hd14.lt
  replace hb := k36.heap hb (ho.offT hb (by decide))
  replace h2 := k36.heap h2 (ho.offT h2 (by decide))
  replace h3 := k36.heap h3 (ho.offT h3 (by decide))
  replace h6 := k36.heap h6 (ho.offT h6 (by decide))
  replace hb17 := k36.heap hb17 (ho.offT hb17 (by decide))
  replace hd14 := hd14.keeps k36 (fun i hi e => mA i e hi)
  replace K := K.trans' k36 (fun i hi e => .inr (.inr (.inl e)))
  clear ho
  refine WL.store (v := .slice A32 ((out ++ [GDisk.recT d (at_ + (out.length : Int)) e (out.length : Int).toNat]).length) c33) (i := 0) (cs' := #[.slice A32 ((out ++ [GDisk.recT d (at_ + (out.length : Int)) e (out.length : Int).toNat]).length) c33]) h6 (k := fun w40 hb41 k42 => ?_)
  replace hb := k42.heap hb ne3
  replace h2 := k42.heap h2 ne6
  replace h3 := k42.heap h3 ne8
  replace hb17 := k42.heap hb17 (Ne.symm ne10)
  replace ho35 := ho35.keeps k42 (fun i hi e => (ho35.offT h6 (by decide)) (e ▸ hi))
  replace hd14 := hd14.keeps k42 (fun i hi e => m6 (e ▸ hi))
  replace K := K.trans' k42 (fun i hi e => .inr (.inl e))
  clear h6
  refine WL.nil ?_
  refine WX.seqN ?_
  refine WC.seq ?_
  refine WC.region ?_
  refine WL.op (d := 23) (.bool (decide (GDisk.recP d (at_ + (out.length : Int)) e (out.length : Int).toNat))) (k := ?_)
  refine WL.op (d := 4) (.bool (decide (GDisk.recP d (at_ + (out.length : Int)) e (out.length : Int).toNat))) (k := ?_)
  refine WL.nil ?_
  refine WX.seqN ?_
  refine WC.ret ?_
  refine WX.ret (rs := [.tmp 4]) [.bool (decide (GDisk.recP d (at_ + (out.length : Int)) e (out.length : Int).toNat))] (.bool (decide (GDisk.recP d (at_ + (out.length : Int)) e (out.length : Int).toNat))) ⟨(by kernel_rfl), trivial⟩ (k := ?_)
  exact ⟨_, _, ret_bool h11, hb, h2, h3, hb41, hb17, ho35, hd14, ol38, K⟩
set_option maxRecDepth 100000 in
set_option maxHeartbeats 4000000 in
theorem wlScan1_no {S : Nat → Prop} {b dk b2 b3 b6 b7 : Nat} {d : GDisk} {at_ n bad : Int} {stv : Value} {e : Nat} {A : Option Addr} {c : Nat} {out : List (List UInt8)} {w : World} (hb : w.heap[b]? = some (.cells #[.pointer (some ⟨dk, 0, none⟩), .int .i64 at_, .int .i64 n, stv] 60 (0, 0))) (hd : DiskAt S dk d w) (h2 : w.heap[b2]? = some (.cells #[.pointer (some ⟨b, 0, none⟩)] 26 (0, 0))) (h3 : w.heap[b3]? = some (.cells #[.int .u64 (e : Int)] 32 (0, 0))) (h6 : w.heap[b6]? = some (.cells #[.slice A out.length c] 36 (0, 0))) (h7 : w.heap[b7]? = some (.cells #[.int .i64 bad] 37 (0, 0))) (ho : OwAt strC 1 9 A c out w) (hnb : ¬ S b) (m2 : ¬ S b2) (m3 : ¬ S b3) (m6 : ¬ S b6) (m7 : ¬ S b7) (mA : ∀ i, blk A = some i → ¬ S i) (a0 : 0 ≤ at_) (a1 : at_ ≤ 1024) (lo : out.length ≤ 1023) (hR : ¬ GDisk.recP d (at_ + (out.length : Int)) e (out.length : Int).toNat) : Calls Tryz.prog 28 #[.pointer (some ⟨b2, 0, none⟩), .pointer (some ⟨b3, 0, none⟩), .pointer (some ⟨b6, 0, none⟩), .pointer (some ⟨b7, 0, none⟩)] w fun e_ w' => e_ = .returned (.bool false) ∧ w'.heap[b]? = some (.cells #[.pointer (some ⟨dk, 0, none⟩), .int .i64 at_, .int .i64 n, stv] 60 (0, 0)) ∧ w'.heap[b2]? = some (.cells #[.pointer (some ⟨b, 0, none⟩)] 26 (0, 0)) ∧ w'.heap[b3]? = some (.cells #[.int .u64 (e : Int)] 32 (0, 0)) ∧ w'.heap[b6]? = some (.cells #[.slice A out.length c] 36 (0, 0)) ∧ w'.heap[b7]? = some (.cells #[.int .i64 (GDisk.readE d (at_ + (out.length : Int)))] 37 (0, 0)) ∧ OwAt strC 1 9 A c out w' ∧ DiskAt S dk (GDisk.readD d (at_ + (out.length : Int))) w' ∧ Keeps (fun k => k = b7 ∨ k = b6 ∨ blk A = some k ∨ S k) w w' := by
  have K : Keeps (fun k => k = b7 ∨ k = b6 ∨ blk A = some k ∨ S k) w w := Keeps.refl _ w
  have ne1 : b ≠ b2 := blk_ne hb h2 (by decide)
  have ne2 : b ≠ b3 := blk_ne hb h3 (by decide)
  have ne3 : b ≠ b6 := blk_ne hb h6 (by decide)
  have ne4 : b ≠ b7 := blk_ne hb h7 (by decide)
  have ne5 : b2 ≠ b3 := blk_ne h2 h3 (by decide)
  have ne6 : b2 ≠ b6 := blk_ne h2 h6 (by decide)
  have ne7 : b2 ≠ b7 := blk_ne h2 h7 (by decide)
  have ne8 : b3 ≠ b6 := blk_ne h3 h6 (by decide)
  have ne9 : b3 ≠ b7 := blk_ne h3 h7 (by decide)
  have ne10 : b6 ≠ b7 := blk_ne h6 h7 (by decide)
  have lk0 : ∀ k, S k → S k ∨ w.heap.size ≤ k := fun k h => .inl h
  have h11 : (decide (GDisk.recP d (at_ + (out.length : Int)) e (out.length : Int).toNat)) = false := decide_eq_false hR
  have ph11 := of_decide_eq_false h11
  refine Calls.start Tryz.func28 rfl (by kernel_rfl) ?_
  refine WC.seq ?_
  refine WC.region ?_
  refine WL.op (d := 4) (.bool false) (k := ?_)
  refine WL.nil ?_
  refine WX.seqN ?_
  refine WC.seq ?_
  refine WC.region ?_
  refine WL.load (v := .pointer (some ⟨b, 0, none⟩)) (ld1 (T := 26) (i := 0) h2) (k := ?_)
  refine WL.load (v := .int .u64 ((e : Nat) : Int)) (ld1 (T := 32) (i := 0) h3) (k := ?_)
  refine WL.load (v := .slice A out.length c) (ld1 (T := 36) (i := 0) h6) (k := ?_)
  refine WL.op (d := 12) (.int .i64 (out.length : Int)) (k := ?_)
  refine WL.callG (d := 13) (f := 29) (args := #[.pointer (some ⟨b, 0, none⟩), .int .u64 ((e : Nat) : Int), .int .i64 (out.length : Int)]) (wlRecord_c (e := e) (i := (out.length : Int)) hb hd hnb (by omega) (by omega) (by omega) (by omega)) (k := fun e_ w13 h_ => ?_)
  obtain ⟨rfl, hd14, k15⟩ := h_
  refine ⟨_, rfl, ?_⟩
  replace hb := k15.heap hb hnb
  replace h2 := k15.heap h2 m2
  replace h3 := k15.heap h3 m3
  replace h6 := k15.heap h6 m6
  replace h7 := k15.heap h7 m7
  replace ho := ho.keeps k15 mA
  replace K := K.trans' k15 (fun i hi e => (lk0 i e).elim (fun h => .inr (.inr (.inr h))) (fun h => absurd hi (Nat.not_lt.2 h)))
  clear hd
  have rl12 := GDisk.recT_len (d := d) (a := (at_ + (out.length : Int))) (e := e) (i := (out.length : Int).toNat)
  refine WL.op (d := 8) (.tuple #[.string ⟨(GDisk.recT d (at_ + (out.length : Int)) e (out.length : Int).toNat).toArray⟩, .bool (decide (GDisk.recP d (at_ + (out.length : Int)) e (out.length : Int).toNat)), .int .i64 (GDisk.readE d (at_ + (out.length : Int)))]) (k := ?_)
  refine WL.op (d := 14) (.string ⟨(GDisk.recT d (at_ + (out.length : Int)) e (out.length : Int).toNat).toArray⟩) (k := ?_)
  refine WL.op (d := 15) (.bool (decide (GDisk.recP d (at_ + (out.length : Int)) e (out.length : Int).toNat))) (k := ?_)
  refine WL.op (d := 16) (.int .i64 (GDisk.readE d (at_ + (out.length : Int)))) (k := ?_)
  refine WL.op (d := 5) (.string ⟨(GDisk.recT d (at_ + (out.length : Int)) e (out.length : Int).toNat).toArray⟩) (k := ?_)
  refine WL.op (d := 6) (.bool (decide (GDisk.recP d (at_ + (out.length : Int)) e (out.length : Int).toNat))) (k := ?_)
  refine WL.op (d := 7) (.int .i64 (GDisk.readE d (at_ + (out.length : Int)))) (k := ?_)
  refine WL.nil ?_
  refine WX.seqN ?_
  refine WC.seq ?_
  refine WC.region ?_
  refine WL.op (d := 17) (.int .i64 (GDisk.readE d (at_ + (out.length : Int)))) (k := ?_)
  refine WL.store (v := .int .i64 (GDisk.readE d (at_ + (out.length : Int)))) (i := 0) (cs' := #[.int .i64 (GDisk.readE d (at_ + (out.length : Int)))]) h7 (k := fun w16 hb17 k18 => ?_)
  replace hb := k18.heap hb ne4
  replace h2 := k18.heap h2 ne7
  replace h3 := k18.heap h3 ne9
  replace h6 := k18.heap h6 ne10
  replace ho := ho.keeps k18 (fun i hi e => (ho.offT h7 (by decide)) (e ▸ hi))
  replace hd14 := hd14.keeps k18 (fun i hi e => m7 (e ▸ hi))
  replace K := K.trans' k18 (fun i hi e => .inl e)
  clear h7
  refine WL.nil ?_
  refine WX.seqN ?_
  refine WC.seq ?_
  refine WC.seq ?_
  refine WC.region ?_
  refine WL.op (d := 18) (.bool (decide (GDisk.recP d (at_ + (out.length : Int)) e (out.length : Int).toNat))) (k := ?_)
  refine WL.nil ?_
  refine WX.seqN ?_
  refine WC.rw (t := 18) (v := .bool false) (congrArg Value.bool h11) (k := ?_)
  refine WC.condF (k := ?_)
  refine WC.skip ?_
  refine WX.seqN ?_
  refine WC.seq ?_
  refine WC.region ?_
  refine WL.op (d := 23) (.bool (decide (GDisk.recP d (at_ + (out.length : Int)) e (out.length : Int).toNat))) (k := ?_)
  refine WL.op (d := 4) (.bool (decide (GDisk.recP d (at_ + (out.length : Int)) e (out.length : Int).toNat))) (k := ?_)
  refine WL.nil ?_
  refine WX.seqN ?_
  refine WC.ret ?_
  refine WX.ret (rs := [.tmp 4]) [.bool (decide (GDisk.recP d (at_ + (out.length : Int)) e (out.length : Int).toNat))] (.bool (decide (GDisk.recP d (at_ + (out.length : Int)) e (out.length : Int).toNat))) ⟨(by kernel_rfl), trivial⟩ (k := ?_)
  exact ⟨ret_bool h11, hb, h2, h3, h6, hb17, ho, hd14, K⟩
set_option maxRecDepth 100000 in
set_option maxHeartbeats 4000000 in
theorem wlScan_ok {S : Nat → Prop} {b dk : Nat} {d : GDisk} {at_ n : Int} {stv : Value} {w : World} (hb : w.heap[b]? = some (.cells #[.pointer (some ⟨dk, 0, none⟩), .int .i64 at_, .int .i64 n, stv] 60 (0, 0))) (hd : DiskAt S dk d w) (hnb : ¬ S b) {e : Nat} (a0 : 0 ≤ at_) (a1 : at_ ≤ 1024) (n1 : n ≤ 1024) (he : ¬ e = 0) (he2 : e < 18446744073709551616) (hR : (scanGo at_ e n.toNat d []).2.1 = 0) : Calls Tryz.prog 9 #[.pointer (some ⟨b, 0, none⟩), .int .u64 (e : Int)] w fun e_ w' => ∃ A c, e_ = .returned (.tuple #[.slice A (scanGo at_ e n.toNat d []).1.length c, .int .i64 0]) ∧ w'.heap[b]? = some (.cells #[.pointer (some ⟨dk, 0, none⟩), .int .i64 at_, .int .i64 n, .iface 67 (.agg #[.int .u64 (e : Int), .int .i64 ((scanGo at_ e n.toNat d []).1.length : Int)])] 60 (0, 0)) ∧ OwAt strC 1 9 A c (scanGo at_ e n.toNat d []).1 w' ∧ (∀ i, blk A = some i → w.heap.size ≤ i) ∧ DiskAt S dk (scanGo at_ e n.toNat d []).2.2 w' ∧ (∀ i, blk A = some i → ¬ S i) ∧ Keeps (fun k => k = b ∨ S k) w w' := by
  have K : Keeps (fun k => k = b ∨ S k) w w := Keeps.refl _ w
  have lk0 : ∀ k, S k → S k ∨ w.heap.size ≤ k := fun k h => .inl h
  have h1 : (((e : Nat) : Int) == 0) = false := beq_eq_false_iff_ne.2 (by omega)
  have ph1 := ne_of_beq_false h1
  refine Calls.start Tryz.func9 rfl (by kernel_rfl) ?_
  refine WC.seq ?_
  refine WC.region ?_
  refine WL.new (d := 2) (T := 26) #[.pointer (some ⟨b, 0, none⟩)] (k := fun b2 w3 g4 hb5 k6 => ?_)
  have z7 := Nat.le_trans K.size g4
  have n8 : b ≠ b2 := Nat.ne_of_lt (Nat.lt_of_lt_of_le (lt_of_heap hb) g4)
  have n9 : ¬ S b2 := fun h => absurd (hd.lt _ h) (Nat.not_lt.2 g4)
  replace hb := k6.heap hb id
  replace hd := hd.adds k6
  replace K := K.trans (k6.any _)
  refine WL.new (d := 3) (T := 32) #[.int .u64 ((e : Nat) : Int)] (k := fun b10 w11 g12 hb13 k14 => ?_)
  have z15 := Nat.le_trans K.size g12
  have n16 : b ≠ b10 := Nat.ne_of_lt (Nat.lt_of_lt_of_le (lt_of_heap hb) g12)
  have n17 : ¬ S b10 := fun h => absurd (hd.lt _ h) (Nat.not_lt.2 g12)
  have n18 : b2 ≠ b10 := Nat.ne_of_lt (Nat.lt_of_lt_of_le (lt_of_heap hb5) g12)
  replace hb := k14.heap hb id
  replace hd := hd.adds k14
  replace hb5 := k14.heap hb5 id
  replace K := K.trans (k14.any _)
  refine WL.op (d := 4) (.slice none 0 0) (k := ?_)
  refine WL.op (d := 5) (.int .i64 0) (k := ?_)
  refine WL.nil ?_
  refine WX.seqN ?_
  refine WC.scope ?_
  refine WC.seq ?_
  refine WC.seq ?_
  refine WC.region ?_
  refine WL.load (v := .pointer (some ⟨b, 0, none⟩)) (ld1 (T := 26) (i := 0) hb5) (k := ?_)
  refine WL.op (d := 10) (.bool false) (k := ?_)
  refine WL.op (d := 11) (.bool false) (k := ?_)
  refine WL.load (v := .int .u64 ((e : Nat) : Int)) (ld1 (T := 32) (i := 0) hb13) (k := ?_)
  refine WL.op (d := 13) (.bool (((e : Nat) : Int) == 0)) (k := ?_)
  refine WL.op (d := 14) (.bool (((e : Nat) : Int) == 0)) (k := ?_)
  refine WL.nil ?_
  refine WX.seqN ?_
  refine WC.rw (t := 14) (v := .bool false) (congrArg Value.bool h1) (k := ?_)
  refine WC.condF (k := ?_)
  refine WC.skip ?_
  refine WX.seqN ?_
  refine WC.seq ?_
  refine WC.region ?_
  refine WL.load (v := .pointer (some ⟨b, 0, none⟩)) (ld1 (T := 26) (i := 0) hb5) (k := ?_)
  refine WL.op (d := 16) (.agg #[]) (k := ?_)
  refine WL.op (d := 17) (.iface 56 (.agg #[])) (k := ?_)
  refine WL.op (d := 18) (.pointer (some ⟨b, 0, none⟩)) (k := ?_)
  refine WL.op (d := 19) (.pointer (some ⟨b, 3, none⟩)) (k := ?_)
  refine WL.store (v := .iface 56 (.agg #[])) (i := 3) (cs' := #[.pointer (some ⟨dk, 0, none⟩), .int .i64 at_, .int .i64 n, .iface 56 (.agg #[])]) hb (k := fun w19 hb20 k21 => ?_)
  replace hd := hd.keeps k21 (fun i hi e => hnb (e ▸ hi))
  replace hb5 := k21.heap hb5 (Ne.symm n8)
  replace hb13 := k21.heap hb13 (Ne.symm n16)
  replace K := K.trans' k21 (fun i hi e => .inl e)
  clear hb
  refine WL.nil ?_
  refine WX.seqN ?_
  refine WC.seq ?_
  refine WC.region ?_
  refine WL.new (d := 6) (T := 36) #[.slice none 0 0] (k := fun b22 w23 g24 hb25 k26 => ?_)
  have z27 := Nat.le_trans K.size g24
  have n28 : b ≠ b22 := Nat.ne_of_lt (Nat.lt_of_lt_of_le (lt_of_heap hb20) g24)
  have n29 : ¬ S b22 := fun h => absurd (hd.lt _ h) (Nat.not_lt.2 g24)
  have n30 : b2 ≠ b22 := Nat.ne_of_lt (Nat.lt_of_lt_of_le (lt_of_heap hb5) g24)
  have n31 : b10 ≠ b22 := Nat.ne_of_lt (Nat.lt_of_lt_of_le (lt_of_heap hb13) g24)
  replace hb20 := k26.heap hb20 id
  replace hd := hd.adds k26
  replace hb5 := k26.heap hb5 id
  replace hb13 := k26.heap hb13 id
  replace K := K.trans (k26.any _)
  refine WL.nil ?_
  refine WX.seqN ?_
  refine WC.seq ?_
  refine WC.region ?_
  refine WL.new (d := 7) (T := 37) #[.int .i64 0] (k := fun b32 w33 g34 hb35 k36 => ?_)
  have z37 := Nat.le_trans K.size g34
  have n38 : b ≠ b32 := Nat.ne_of_lt (Nat.lt_of_lt_of_le (lt_of_heap hb20) g34)
  have n39 : ¬ S b32 := fun h => absurd (hd.lt _ h) (Nat.not_lt.2 g34)
  have n40 : b2 ≠ b32 := Nat.ne_of_lt (Nat.lt_of_lt_of_le (lt_of_heap hb5) g34)
  have n41 : b10 ≠ b32 := Nat.ne_of_lt (Nat.lt_of_lt_of_le (lt_of_heap hb13) g34)
  have n42 : b22 ≠ b32 := Nat.ne_of_lt (Nat.lt_of_lt_of_le (lt_of_heap hb25) g34)
  replace hb20 := k36.heap hb20 id
  replace hd := hd.adds k36
  replace hb5 := k36.heap hb5 id
  replace hb13 := k36.heap hb13 id
  replace hb25 := k36.heap hb25 id
  replace K := K.trans (k36.any _)
  refine WL.store (v := .int .i64 0) (i := 0) (cs' := #[.int .i64 0]) hb35 (k := fun w43 hb44 k45 => ?_)
  replace hb20 := k45.heap hb20 n38
  replace hd := hd.keeps k45 (fun i hi e => n39 (e ▸ hi))
  replace hb5 := k45.heap hb5 n40
  replace hb13 := k45.heap hb13 n41
  replace hb25 := k45.heap hb25 n42
  replace K := K.trans' k45 (fun i hi e => absurd (e ▸ hi) (Nat.not_lt.2 z37))
  clear hb35
  refine WL.nil ?_
  refine WX.seqN ?_
  refine WC.seq ?_
  refine WC.region ?_
  refine WL.op (d := 20) (.func (.func 28) #[] #[.pointer (some ⟨b2, 0, none⟩), .pointer (some ⟨b10, 0, none⟩), .pointer (some ⟨b22, 0, none⟩), .pointer (some ⟨b32, 0, none⟩)]) (k := ?_)
  refine WL.op (d := 8) (.func (.func 28) #[] #[.pointer (some ⟨b2, 0, none⟩), .pointer (some ⟨b10, 0, none⟩), .pointer (some ⟨b22, 0, none⟩), .pointer (some ⟨b32, 0, none⟩)]) (k := ?_)
  refine WL.nil ?_
  refine WX.seqN ?_
  refine WC.seq ?_
  refine WC.label ?_
  refine WX.seqN ?_
  refine WC.seq ?_
  refine WC.block ?_
  refine WC.loop (ι := (List (List UInt8)) × (Option Addr) × Nat × GDisk) (fun (⟨out, Ao, co, di⟩ : (List (List UInt8)) × (Option Addr) × Nat × GDisk) => [(0, .pointer (some ⟨b, 0, none⟩)), (1, .int .u64 ((e : Nat) : Int)), (2, .pointer (some ⟨b2, 0, none⟩)), (3, .pointer (some ⟨b10, 0, none⟩)), (4, .slice none 0 0), (5, .int .i64 0), (9, .pointer (some ⟨b, 0, none⟩)), (10, .bool false), (11, .bool false), (12, .int .u64 ((e : Nat) : Int)), (13, .bool (((e : Nat) : Int) == 0)), (14, .bool false), (15, .pointer (some ⟨b, 0, none⟩)), (16, .agg #[]), (17, .iface 56 (.agg #[])), (18, .pointer (some ⟨b, 0, none⟩)), (19, .pointer (some ⟨b, 3, none⟩)), (6, .pointer (some ⟨b22, 0, none⟩)), (7, .pointer (some ⟨b32, 0, none⟩)), (20, .func (.func 28) #[] #[.pointer (some ⟨b2, 0, none⟩), .pointer (some ⟨b10, 0, none⟩), .pointer (some ⟨b22, 0, none⟩), .pointer (some ⟨b32, 0, none⟩)]), (8, .func (.func 28) #[] #[.pointer (some ⟨b2, 0, none⟩), .pointer (some ⟨b10, 0, none⟩), .pointer (some ⟨b22, 0, none⟩), .pointer (some ⟨b32, 0, none⟩)])]) (fun (⟨out, Ao, co, di⟩ : (List (List UInt8)) × (Option Addr) × Nat × GDisk) (w_ : World) => (Keeps (fun k => k = b ∨ S k) w w_) ∧ (w_.heap[b]? = some (.cells #[.pointer (some ⟨dk, 0, none⟩), .int .i64 at_, .int .i64 n, .iface 56 (.agg #[])] 60 (0, 0))) ∧ (DiskAt S dk di w_) ∧ (∀ k, S k → S k ∨ w.heap.size ≤ k) ∧ (¬ S b) ∧ (¬ S b2) ∧ (¬ S b10) ∧ (¬ S b22) ∧ (¬ S b32) ∧ (∀ i, blk Ao = some i → ¬ S i) ∧ (w_.heap[b2]? = some (.cells #[.pointer (some ⟨b, 0, none⟩)] 26 (0, 0))) ∧ (w_.heap[b10]? = some (.cells #[.int .u64 ((e : Nat) : Int)] 32 (0, 0))) ∧ (w_.heap[b22]? = some (.cells #[.slice Ao out.length co] 36 (0, 0))) ∧ (w_.heap[b32]? = some (.cells #[.int .i64 0] 37 (0, 0))) ∧ (OwAt strC 1 9 Ao co out w_) ∧ (∀ i, blk Ao = some i → w.heap.size ≤ i) ∧ (scanGo at_ e n.toNat d [] = scanGo at_ e (n.toNat - out.length) di out) ∧ (out.length ≤ n.toNat)) (fun (⟨out, Ao, co, di⟩ : (List (List UInt8)) × (Option Addr) × Nat × GDisk) => (n.toNat - List.length out)) ([], none, 0, d) ⟨(by kernel_rfl), (by kernel_rfl), (by kernel_rfl), (by kernel_rfl), (by kernel_rfl), (by kernel_rfl), (by kernel_rfl), (by kernel_rfl), (by kernel_rfl), (by kernel_rfl), (by kernel_rfl), (by kernel_rfl), (by kernel_rfl), (by kernel_rfl), (by kernel_rfl), (by kernel_rfl), (by kernel_rfl), (by kernel_rfl), (by kernel_rfl), (by kernel_rfl), (by kernel_rfl), trivial⟩ ⟨K, hb20, hd, lk0, hnb, n9, n17, n29, n39, (fun i hi => by simp [blk] at hi), hb5, hb13, hb25, hb44, OwAt.nil, (by simp [blk]), rfl, (Nat.zero_le _)⟩ ?_
  rintro ⟨out, Ao, co, di⟩ w46 ⟨K, hb47, hb48, lk49, n50, n51, n52, n53, n54, n55, hb56, hb57, hb58, hb59, hb60, ol61, hg, lo⟩
  refine WC.seq ?_
  refine WC.seq ?_
  refine WC.quiet (k := ?_)
  refine WQ.load (v := .slice Ao out.length co) (fun w_ k_ => ld1 (T := 36) (i := 0) (k_.heap hb58 id)) (k := ?_)
  refine WQ.op (d := 22) (.int .i64 (out.length : Int)) (k := ?_)
  refine WQ.load (v := .pointer (some ⟨b, 0, none⟩)) (fun w_ k_ => ld1 (T := 26) (i := 0) (k_.heap hb56 id)) (k := ?_)
  refine WQ.op (d := 24) (.pointer (some ⟨b, 0, none⟩)) (k := ?_)
  refine WQ.op (d := 25) (.pointer (some ⟨b, 2, none⟩)) (k := ?_)
  refine WQ.load (v := .int .i64 n) (fun w_ k_ => ld1 (T := 3) (i := 2) (k_.heap hb47 id)) (k := ?_)
  refine WQ.op (d := 27) (.bool (decide ((out.length : Int) < n))) (k := ?_)
  refine WQ.nilX (fun w62 k63 => ?_)
  replace hb47 := k63.heap hb47 id
  replace hb48 := hb48.adds k63
  replace hb56 := k63.heap hb56 id
  replace hb57 := k63.heap hb57 id
  replace hb58 := k63.heap hb58 id
  replace hb59 := k63.heap hb59 id
  replace hb60 := hb60.adds k63
  replace K := K.trans (k63.any _)
  refine WX.seqN ?_
  refine WC.cond (b := decide ((out.length : Int) < n)) (ht := fun h64 => ?_) (hf := fun h64 => ?_)
  · have ph64 := of_decide_eq_true h64
    refine WC.skip ?_
    refine WX.seqN ?_
    refine WC.block ?_
    refine WC.seq ?_
    refine WC.region ?_
    refine WL.op (d := 28) (.func (.func 28) #[] #[.pointer (some ⟨b2, 0, none⟩), .pointer (some ⟨b10, 0, none⟩), .pointer (some ⟨b22, 0, none⟩), .pointer (some ⟨b32, 0, none⟩)]) (k := ?_)
    refine bsplit (decide (GDisk.recP di (at_ + (out.length : Int)) e (out.length : Int).toNat)) (fun h65 => ?_) (fun h65 => ?_)
    · have ph65 := of_decide_eq_true h65
      refine WL.callG (d := 29) (f := 28) (args := #[.pointer (some ⟨b2, 0, none⟩), .pointer (some ⟨b10, 0, none⟩), .pointer (some ⟨b22, 0, none⟩), .pointer (some ⟨b32, 0, none⟩)]) (wlScan1_ok (e := e) hb47 hb48 hb56 hb57 hb58 hb59 hb60 n50 n51 n52 n53 n54 n55 (by omega) (by omega) (by omega) ph65) (k := fun e_ w66 h_ => ?_)
      obtain ⟨A67, c68, rfl, hb69, hb70, hb71, hb72, hb73, ho74, hd75, n76, k77⟩ := h_
      refine ⟨_, rfl, ?_⟩
      have K0_ := K
      have ol78 := olink_step ol61 K n76
      have n79 := fp_step n76 n55 hb48.lt
      replace K := K.trans' k77 (fun i hi e => e.elim (fun e => absurd (e ▸ hi) (Nat.not_lt.2 z37)) (fun e => e.elim (fun e => absurd (e ▸ hi) (Nat.not_lt.2 z27)) (fun e => e.elim (fun e => absurd hi (Nat.not_lt.2 (ol61 i e))) (fun e => (lk49 i e).elim (fun h => .inr h) (fun h => absurd hi (Nat.not_lt.2 h))))))
      clear hb47 hb56 hb57 hb58 hb59 hb60 hb48
      refine WL.op (d := 30) (.bool false) (k := ?_)
      refine WL.nil ?_
      refine WX.seqN ?_
      refine WC.condF (k := ?_)
      refine WC.skip ?_
      refine WX.blockN ?_
      rw [ph65.1] at hb73
      have lx_ : List.length (out ++ [GDisk.recT di (at_ + (out.length : Int)) e (out.length : Int).toNat]) = out.length + 1 := by simp
      refine WX.round (out ++ [GDisk.recT di (at_ + (out.length : Int)) e (out.length : Int).toNat], A67, c68, GDisk.readD di (at_ + (out.length : Int))) (by show (n.toNat - List.length (out ++ [GDisk.recT di (at_ + (out.length : Int)) e (out.length : Int).toNat])) < (n.toNat - List.length out); omega) ⟨(by kernel_rfl), (by kernel_rfl), (by kernel_rfl), (by kernel_rfl), (by kernel_rfl), (by kernel_rfl), (by kernel_rfl), (by kernel_rfl), (by kernel_rfl), (by kernel_rfl), (by kernel_rfl), (by kernel_rfl), (by kernel_rfl), (by kernel_rfl), (by kernel_rfl), (by kernel_rfl), (by kernel_rfl), (by kernel_rfl), (by kernel_rfl), (by kernel_rfl), (by kernel_rfl), trivial⟩ ⟨K, hb69, hd75, lk49, n50, n51, n52, n53, n54, n79, hb70, hb71, hb72, hb73, ho74, ol78, (scan_go hg (by omega) ph65), (by omega)⟩
    · have ph65 := of_decide_eq_false h65
      refine WL.callG (d := 29) (f := 28) (args := #[.pointer (some ⟨b2, 0, none⟩), .pointer (some ⟨b10, 0, none⟩), .pointer (some ⟨b22, 0, none⟩), .pointer (some ⟨b32, 0, none⟩)]) (wlScan1_no (e := e) hb47 hb48 hb56 hb57 hb58 hb59 hb60 n50 n51 n52 n53 n54 n55 (by omega) (by omega) (by omega) ph65) (k := fun e_ w80 h_ => ?_)
      obtain ⟨rfl, hb83, hb84, hb85, hb86, hb87, ho88, hd89, k91⟩ := h_
      refine ⟨_, rfl, ?_⟩
      replace K := K.trans' k91 (fun i hi e => e.elim (fun e => absurd (e ▸ hi) (Nat.not_lt.2 z37)) (fun e => e.elim (fun e => absurd (e ▸ hi) (Nat.not_lt.2 z27)) (fun e => e.elim (fun e => absurd hi (Nat.not_lt.2 (ol61 i e))) (fun e => (lk49 i e).elim (fun h => .inr h) (fun h => absurd hi (Nat.not_lt.2 h))))))
      clear hb47 hb56 hb57 hb58 hb59 hb60 hb48
      refine WL.op (d := 30) (.bool true) (k := ?_)
      refine WL.nil ?_
      refine WX.seqN ?_
      refine WC.condT (k := ?_)
      refine WC.exit ?_
      refine WX.blockO (by kernel_rfl) ?_
      refine WX.seqE ?_
      refine WX.blockE ?_
      refine WX.seqN ?_
      refine WC.seq ?_
      refine WC.seq ?_
      refine WC.region ?_
      refine WL.load (v := .int .i64 (GDisk.readE di (at_ + (out.length : Int)))) (ld1 (T := 37) (i := 0) hb87) (k := ?_)
      refine WL.op (d := 32) (.bool ((GDisk.readE di (at_ + (out.length : Int))) != 0)) (k := ?_)
      refine WL.nil ?_
      refine WX.seqN ?_
      refine WC.cond (b := (GDisk.readE di (at_ + (out.length : Int))) != 0) (ht := fun h92 => ?_) (hf := fun h92 => ?_)
      · have ph92 := bne_iff_ne.1 h92
        refine WC.seq ?_
        refine WC.quiet (k := ?_)
        refine WQ.load (v := .int .i64 (GDisk.readE di (at_ + (out.length : Int)))) (fun w_ k_ => ld1 (T := 37) (i := 0) (k_.heap hb87 id)) (k := ?_)
        refine WQ.op (d := 4) (.slice none 0 0) (k := ?_)
        refine WQ.op (d := 5) (.int .i64 (GDisk.readE di (at_ + (out.length : Int)))) (k := ?_)
        refine WQ.nilX (fun w93 k94 => ?_)
        replace hb83 := k94.heap hb83 id
        replace hd89 := hd89.adds k94
        replace hb84 := k94.heap hb84 id
        replace hb85 := k94.heap hb85 id
        replace hb86 := k94.heap hb86 id
        replace hb87 := k94.heap hb87 id
        replace ho88 := ho88.adds k94
        replace K := K.trans (k94.any _)
        refine WX.seqN ?_
        refine WC.ret ?_
        refine WX.seqR ?_
        refine WX.scopeR ?_
        refine WX.ret (rs := [.tmp 4, .tmp 5]) [.slice none 0 0, .int .i64 (GDisk.readE di (at_ + (out.length : Int)))] (.tuple #[.slice none 0 0, .int .i64 (GDisk.readE di (at_ + (out.length : Int)))]) ⟨(by kernel_rfl), (by kernel_rfl), trivial⟩ (k := ?_)
        have e_ := scan_stop hg (by omega) ph65
        rw [e_] at hR
        exact absurd hR ph92
      · have ph92 := of_bne_false h92
        refine WC.skip ?_
        refine WX.seqN ?_
        refine WC.seq ?_
        refine WC.region ?_
        refine WL.load (v := .pointer (some ⟨b, 0, none⟩)) (ld1 (T := 26) (i := 0) hb84) (k := ?_)
        refine WL.load (v := .int .u64 ((e : Nat) : Int)) (ld1 (T := 32) (i := 0) hb85) (k := ?_)
        refine WL.load (v := .slice Ao out.length co) (ld1 (T := 36) (i := 0) hb86) (k := ?_)
        refine WL.op (d := 37) (.int .i64 (out.length : Int)) (k := ?_)
        refine WL.op (d := 38) (.agg #[.int .u64 ((e : Nat) : Int), .int .i64 (out.length : Int)]) (k := ?_)
        refine WL.op (d := 39) (.iface 67 (.agg #[.int .u64 ((e : Nat) : Int), .int .i64 (out.length : Int)])) (k := ?_)
        refine WL.op (d := 40) (.pointer (some ⟨b, 0, none⟩)) (k := ?_)
        refine WL.op (d := 41) (.pointer (some ⟨b, 3, none⟩)) (k := ?_)
        refine WL.store (v := .iface 67 (.agg #[.int .u64 ((e : Nat) : Int), .int .i64 (out.length : Int)])) (i := 3) (cs' := #[.pointer (some ⟨dk, 0, none⟩), .int .i64 at_, .int .i64 n, .iface 67 (.agg #[.int .u64 ((e : Nat) : Int), .int .i64 (out.length : Int)])]) hb83 (k := fun w95 hb96 k97 => ?_)
        replace hd89 := hd89.keeps k97 (fun i hi e => n50 (e ▸ hi))
        replace hb84 := k97.heap hb84 (Ne.symm n8)
        replace hb85 := k97.heap hb85 (Ne.symm n16)
        replace hb86 := k97.heap hb86 (Ne.symm n28)
        replace hb87 := k97.heap hb87 (Ne.symm n38)
        replace ho88 := ho88.keeps k97 (fun i hi e => (ho88.offT hb83 (by decide)) (e ▸ hi))
        replace K := K.trans' k97 (fun i hi e => .inl e)
        clear hb83
        refine WL.nil ?_
        refine WX.seqN ?_
        refine WC.seq ?_
        refine WC.region ?_
        refine WL.load (v := .slice Ao out.length co) (ld1 (T := 36) (i := 0) hb86) (k := ?_)
        refine WL.op (d := 4) (.slice Ao out.length co) (k := ?_)
        refine WL.op (d := 5) (.int .i64 0) (k := ?_)
        refine WL.nil ?_
        refine WX.seqN ?_
        refine WC.ret ?_
        refine WX.scopeR ?_
        refine WX.ret (rs := [.tmp 4, .tmp 5]) [.slice Ao out.length co, .int .i64 0] (.tuple #[.slice Ao out.length co, .int .i64 0]) ⟨(by kernel_rfl), (by kernel_rfl), trivial⟩ (k := ?_)
        have e_ := scan_stop hg (by omega) ph65
        rw [e_]
        exact ⟨_, _, rfl, hb96, ho88, ol61, hd89, n55, K⟩
  · have ph64 := of_decide_eq_false h64
    refine WC.exit ?_
    refine WX.seqE ?_
    refine WX.seqE ?_
    refine WX.blockE ?_
    refine WX.seqN ?_
    refine WC.seq ?_
    refine WC.seq ?_
    refine WC.region ?_
    refine WL.load (v := .int .i64 0) (ld1 (T := 37) (i := 0) hb59) (k := ?_)
    refine WL.op (d := 32) (.bool false) (k := ?_)
    refine WL.nil ?_
    refine WX.seqN ?_
    refine WC.condF (k := ?_)
    refine WC.skip ?_
    refine WX.seqN ?_
    refine WC.seq ?_
    refine WC.region ?_
    refine WL.load (v := .pointer (some ⟨b, 0, none⟩)) (ld1 (T := 26) (i := 0) hb56) (k := ?_)
    refine WL.load (v := .int .u64 ((e : Nat) : Int)) (ld1 (T := 32) (i := 0) hb57) (k := ?_)
    refine WL.load (v := .slice Ao out.length co) (ld1 (T := 36) (i := 0) hb58) (k := ?_)
    refine WL.op (d := 37) (.int .i64 (out.length : Int)) (k := ?_)
    refine WL.op (d := 38) (.agg #[.int .u64 ((e : Nat) : Int), .int .i64 (out.length : Int)]) (k := ?_)
    refine WL.op (d := 39) (.iface 67 (.agg #[.int .u64 ((e : Nat) : Int), .int .i64 (out.length : Int)])) (k := ?_)
    refine WL.op (d := 40) (.pointer (some ⟨b, 0, none⟩)) (k := ?_)
    refine WL.op (d := 41) (.pointer (some ⟨b, 3, none⟩)) (k := ?_)
    refine WL.store (v := .iface 67 (.agg #[.int .u64 ((e : Nat) : Int), .int .i64 (out.length : Int)])) (i := 3) (cs' := #[.pointer (some ⟨dk, 0, none⟩), .int .i64 at_, .int .i64 n, .iface 67 (.agg #[.int .u64 ((e : Nat) : Int), .int .i64 (out.length : Int)])]) hb47 (k := fun w98 hb99 k100 => ?_)
    replace hb48 := hb48.keeps k100 (fun i hi e => n50 (e ▸ hi))
    replace hb56 := k100.heap hb56 (Ne.symm n8)
    replace hb57 := k100.heap hb57 (Ne.symm n16)
    replace hb58 := k100.heap hb58 (Ne.symm n28)
    replace hb59 := k100.heap hb59 (Ne.symm n38)
    replace hb60 := hb60.keeps k100 (fun i hi e => (hb60.offT hb47 (by decide)) (e ▸ hi))
    replace K := K.trans' k100 (fun i hi e => .inl e)
    clear hb47
    refine WL.nil ?_
    refine WX.seqN ?_
    refine WC.seq ?_
    refine WC.region ?_
    refine WL.load (v := .slice Ao out.length co) (ld1 (T := 36) (i := 0) hb58) (k := ?_)
    refine WL.op (d := 4) (.slice Ao out.length co) (k := ?_)
    refine WL.op (d := 5) (.int .i64 0) (k := ?_)
    refine WL.nil ?_
    refine WX.seqN ?_
    refine WC.ret ?_
    refine WX.scopeR ?_
    refine WX.ret (rs := [.tmp 4, .tmp 5]) [.slice Ao out.length co, .int .i64 0] (.tuple #[.slice Ao out.length co, .int .i64 0]) ⟨(by kernel_rfl), (by kernel_rfl), trivial⟩ (k := ?_)
    have e_ := scan_end hg (by omega)
    rw [e_]
    exact ⟨_, _, rfl, hb99, hb60, ol61, hb48, n55, K⟩
set_option maxRecDepth 100000 in
set_option maxHeartbeats 4000000 in
theorem wlScan_no {S : Nat → Prop} {b dk : Nat} {d : GDisk} {at_ n : Int} {stv : Value} {w : World} (hb : w.heap[b]? = some (.cells #[.pointer (some ⟨dk, 0, none⟩), .int .i64 at_, .int .i64 n, stv] 60 (0, 0))) (hd : DiskAt S dk d w) (hnb : ¬ S b) {e : Nat} (a0 : 0 ≤ at_) (a1 : at_ ≤ 1024) (n1 : n ≤ 1024) (he : ¬ e = 0) (he2 : e < 18446744073709551616) (hR : ¬ (scanGo at_ e n.toNat d []).2.1 = 0) : Calls Tryz.prog 9 #[.pointer (some ⟨b, 0, none⟩), .int .u64 (e : Int)] w fun e_ w' => e_ = .returned (.tuple #[.slice none 0 0, .int .i64 (scanGo at_ e n.toNat d []).2.1]) ∧ w'.heap[b]? = some (.cells #[.pointer (some ⟨dk, 0, none⟩), .int .i64 at_, .int .i64 n, .iface 56 (.agg #[])] 60 (0, 0)) ∧ DiskAt S dk (scanGo at_ e n.toNat d []).2.2 w' ∧ Keeps (fun k => k = b ∨ S k) w w' := by
  have K : Keeps (fun k => k = b ∨ S k) w w := Keeps.refl _ w
  have lk0 : ∀ k, S k → S k ∨ w.heap.size ≤ k := fun k h => .inl h
  have h1 : (((e : Nat) : Int) == 0) = false := beq_eq_false_iff_ne.2 (by omega)
  have ph1 := ne_of_beq_false h1
  refine Calls.start Tryz.func9 rfl (by kernel_rfl) ?_
  refine WC.seq ?_
  refine WC.region ?_
  refine WL.new (d := 2) (T := 26) #[.pointer (some ⟨b, 0, none⟩)] (k := fun b2 w3 g4 hb5 k6 => ?_)
  have z7 := Nat.le_trans K.size g4
  have n8 : b ≠ b2 := Nat.ne_of_lt (Nat.lt_of_lt_of_le (lt_of_heap hb) g4)
  have n9 : ¬ S b2 := fun h => absurd (hd.lt _ h) (Nat.not_lt.2 g4)
  replace hb := k6.heap hb id
  replace hd := hd.adds k6
  replace K := K.trans (k6.any _)
  refine WL.new (d := 3) (T := 32) #[.int .u64 ((e : Nat) : Int)] (k := fun b10 w11 g12 hb13 k14 => ?_)
  have z15 := Nat.le_trans K.size g12
  have n16 : b ≠ b10 := Nat.ne_of_lt (Nat.lt_of_lt_of_le (lt_of_heap hb) g12)
  have n17 : ¬ S b10 := fun h => absurd (hd.lt _ h) (Nat.not_lt.2 g12)
  have n18 : b2 ≠ b10 := Nat.ne_of_lt (Nat.lt_of_lt_of_le (lt_of_heap hb5) g12)
  replace hb := k14.heap hb id
  replace hd := hd.adds k14
  replace hb5 := k14.heap hb5 id
  replace K := K.trans (k14.any _)
  refine WL.op (d := 4) (.slice none 0 0) (k := ?_)
  refine WL.op (d := 5) (.int .i64 0) (k := ?_)
  refine WL.nil ?_
  refine WX.seqN ?_
  refine WC.scope ?_
  refine WC.seq ?_
  refine WC.seq ?_
  refine WC.region ?_
  refine WL.load (v := .pointer (some ⟨b, 0, none⟩)) (ld1 (T := 26) (i := 0) hb5) (k := ?_)
  refine WL.op (d := 10) (.bool false) (k := ?_)
  refine WL.op (d := 11) (.bool false) (k := ?_)
  refine WL.load (v := .int .u64 ((e : Nat) : Int)) (ld1 (T := 32) (i := 0) hb13) (k := ?_)
  refine WL.op (d := 13) (.bool (((e : Nat) : Int) == 0)) (k := ?_)
  refine WL.op (d := 14) (.bool (((e : Nat) : Int) == 0)) (k := ?_)
  refine WL.nil ?_
  refine WX.seqN ?_
  refine WC.rw (t := 14) (v := .bool false) (congrArg Value.bool h1) (k := ?_)
  refine WC.condF (k := ?_)
  refine WC.skip ?_
  refine WX.seqN ?_
  refine WC.seq ?_
  refine WC.region ?_
  refine WL.load (v := .pointer (some ⟨b, 0, none⟩)) (ld1 (T := 26) (i := 0) hb5) (k := ?_)
  refine WL.op (d := 16) (.agg #[]) (k := ?_)
  refine WL.op (d := 17) (.iface 56 (.agg #[])) (k := ?_)
  refine WL.op (d := 18) (.pointer (some ⟨b, 0, none⟩)) (k := ?_)
  refine WL.op (d := 19) (.pointer (some ⟨b, 3, none⟩)) (k := ?_)
  refine WL.store (v := .iface 56 (.agg #[])) (i := 3) (cs' := #[.pointer (some ⟨dk, 0, none⟩), .int .i64 at_, .int .i64 n, .iface 56 (.agg #[])]) hb (k := fun w19 hb20 k21 => ?_)
  replace hd := hd.keeps k21 (fun i hi e => hnb (e ▸ hi))
  replace hb5 := k21.heap hb5 (Ne.symm n8)
  replace hb13 := k21.heap hb13 (Ne.symm n16)
  replace K := K.trans' k21 (fun i hi e => .inl e)
  clear hb
  refine WL.nil ?_
  refine WX.seqN ?_
  refine WC.seq ?_
  refine WC.region ?_
  refine WL.new (d := 6) (T := 36) #[.slice none 0 0] (k := fun b22 w23 g24 hb25 k26 => ?_)
  have z27 := Nat.le_trans K.size g24
  have n28 : b ≠ b22 := Nat.ne_of_lt (Nat.lt_of_lt_of_le (lt_of_heap hb20) g24)
  have n29 : ¬ S b22 := fun h => absurd (hd.lt _ h) (Nat.not_lt.2 g24)
  have n30 : b2 ≠ b22 := Nat.ne_of_lt (Nat.lt_of_lt_of_le (lt_of_heap hb5) g24)
  have n31 : b10 ≠ b22 := Nat.ne_of_lt (Nat.lt_of_lt_of_le (lt_of_heap hb13) g24)
  replace hb20 := k26.heap hb20 id
  replace hd := hd.adds k26
  replace hb5 := k26.heap hb5 id
  replace hb13 := k26.heap hb13 id
  replace K := K.trans (k26.any _)
  refine WL.nil ?_
  refine WX.seqN ?_
  refine WC.seq ?_
  refine WC.region ?_
  refine WL.new (d := 7) (T := 37) #[.int .i64 0] (k := fun b32 w33 g34 hb35 k36 => ?_)
  have z37 := Nat.le_trans K.size g34
  have n38 : b ≠ b32 := Nat.ne_of_lt (Nat.lt_of_lt_of_le (lt_of_heap hb20) g34)
  have n39 : ¬ S b32 := fun h => absurd (hd.lt _ h) (Nat.not_lt.2 g34)
  have n40 : b2 ≠ b32 := Nat.ne_of_lt (Nat.lt_of_lt_of_le (lt_of_heap hb5) g34)
  have n41 : b10 ≠ b32 := Nat.ne_of_lt (Nat.lt_of_lt_of_le (lt_of_heap hb13) g34)
  have n42 : b22 ≠ b32 := Nat.ne_of_lt (Nat.lt_of_lt_of_le (lt_of_heap hb25) g34)
  replace hb20 := k36.heap hb20 id
  replace hd := hd.adds k36
  replace hb5 := k36.heap hb5 id
  replace hb13 := k36.heap hb13 id
  replace hb25 := k36.heap hb25 id
  replace K := K.trans (k36.any _)
  refine WL.store (v := .int .i64 0) (i := 0) (cs' := #[.int .i64 0]) hb35 (k := fun w43 hb44 k45 => ?_)
  replace hb20 := k45.heap hb20 n38
  replace hd := hd.keeps k45 (fun i hi e => n39 (e ▸ hi))
  replace hb5 := k45.heap hb5 n40
  replace hb13 := k45.heap hb13 n41
  replace hb25 := k45.heap hb25 n42
  replace K := K.trans' k45 (fun i hi e => absurd (e ▸ hi) (Nat.not_lt.2 z37))
  clear hb35
  refine WL.nil ?_
  refine WX.seqN ?_
  refine WC.seq ?_
  refine WC.region ?_
  refine WL.op (d := 20) (.func (.func 28) #[] #[.pointer (some ⟨b2, 0, none⟩), .pointer (some ⟨b10, 0, none⟩), .pointer (some ⟨b22, 0, none⟩), .pointer (some ⟨b32, 0, none⟩)]) (k := ?_)
  refine WL.op (d := 8) (.func (.func 28) #[] #[.pointer (some ⟨b2, 0, none⟩), .pointer (some ⟨b10, 0, none⟩), .pointer (some ⟨b22, 0, none⟩), .pointer (some ⟨b32, 0, none⟩)]) (k := ?_)
  refine WL.nil ?_
  refine WX.seqN ?_
  refine WC.seq ?_
  refine WC.label ?_
  refine WX.seqN ?_
  refine WC.seq ?_
  refine WC.block ?_
  refine WC.loop (ι := (List (List UInt8)) × (Option Addr) × Nat × GDisk) (fun (⟨out, Ao, co, di⟩ : (List (List UInt8)) × (Option Addr) × Nat × GDisk) => [(0, .pointer (some ⟨b, 0, none⟩)), (1, .int .u64 ((e : Nat) : Int)), (2, .pointer (some ⟨b2, 0, none⟩)), (3, .pointer (some ⟨b10, 0, none⟩)), (4, .slice none 0 0), (5, .int .i64 0), (9, .pointer (some ⟨b, 0, none⟩)), (10, .bool false), (11, .bool false), (12, .int .u64 ((e : Nat) : Int)), (13, .bool (((e : Nat) : Int) == 0)), (14, .bool false), (15, .pointer (some ⟨b, 0, none⟩)), (16, .agg #[]), (17, .iface 56 (.agg #[])), (18, .pointer (some ⟨b, 0, none⟩)), (19, .pointer (some ⟨b, 3, none⟩)), (6, .pointer (some ⟨b22, 0, none⟩)), (7, .pointer (some ⟨b32, 0, none⟩)), (20, .func (.func 28) #[] #[.pointer (some ⟨b2, 0, none⟩), .pointer (some ⟨b10, 0, none⟩), .pointer (some ⟨b22, 0, none⟩), .pointer (some ⟨b32, 0, none⟩)]), (8, .func (.func 28) #[] #[.pointer (some ⟨b2, 0, none⟩), .pointer (some ⟨b10, 0, none⟩), .pointer (some ⟨b22, 0, none⟩), .pointer (some ⟨b32, 0, none⟩)])]) (fun (⟨out, Ao, co, di⟩ : (List (List UInt8)) × (Option Addr) × Nat × GDisk) (w_ : World) => (Keeps (fun k => k = b ∨ S k) w w_) ∧ (w_.heap[b]? = some (.cells #[.pointer (some ⟨dk, 0, none⟩), .int .i64 at_, .int .i64 n, .iface 56 (.agg #[])] 60 (0, 0))) ∧ (DiskAt S dk di w_) ∧ (∀ k, S k → S k ∨ w.heap.size ≤ k) ∧ (¬ S b) ∧ (¬ S b2) ∧ (¬ S b10) ∧ (¬ S b22) ∧ (¬ S b32) ∧ (∀ i, blk Ao = some i → ¬ S i) ∧ (w_.heap[b2]? = some (.cells #[.pointer (some ⟨b, 0, none⟩)] 26 (0, 0))) ∧ (w_.heap[b10]? = some (.cells #[.int .u64 ((e : Nat) : Int)] 32 (0, 0))) ∧ (w_.heap[b22]? = some (.cells #[.slice Ao out.length co] 36 (0, 0))) ∧ (w_.heap[b32]? = some (.cells #[.int .i64 0] 37 (0, 0))) ∧ (OwAt strC 1 9 Ao co out w_) ∧ (∀ i, blk Ao = some i → w.heap.size ≤ i) ∧ (scanGo at_ e n.toNat d [] = scanGo at_ e (n.toNat - out.length) di out) ∧ (out.length ≤ n.toNat)) (fun (⟨out, Ao, co, di⟩ : (List (List UInt8)) × (Option Addr) × Nat × GDisk) => (n.toNat - List.length out)) ([], none, 0, d) ⟨(by kernel_rfl), (by kernel_rfl), (by kernel_rfl), (by kernel_rfl), (by kernel_rfl), (by kernel_rfl), (by kernel_rfl), (by kernel_rfl), (by kernel_rfl), (by kernel_rfl), (by kernel_rfl), (by kernel_rfl), (by kernel_rfl), (by kernel_rfl), (by kernel_rfl), (by kernel_rfl), (by kernel_rfl), (by kernel_rfl), (by kernel_rfl), (by kernel_rfl), (by kernel_rfl), trivial⟩ ⟨K, hb20, hd, lk0, hnb, n9, n17, n29, n39, (fun i hi => by simp [blk] at hi), hb5, hb13, hb25, hb44, OwAt.nil, (by simp [blk]), rfl, (Nat.zero_le _)⟩ ?_
  rintro ⟨out, Ao, co, di⟩ w46 ⟨K, hb47, hb48, lk49, n50, n51, n52, n53, n54, n55, hb56, hb57, hb58, hb59, hb60, ol61, hg, lo⟩
  refine WC.seq ?_
  refine WC.seq ?_
  refine WC.quiet (k := ?_)
  refine WQ.load (v := .slice Ao out.length co) (fun w_ k_ => ld1 (T := 36) (i := 0) (k_.heap hb58 id)) (k := ?_)
  refine WQ.op (d := 22) (.int .i64 (out.length : Int)) (k := ?_)
  refine WQ.load (v := .pointer (some ⟨b, 0, none⟩)) (fun w_ k_ => ld1 (T := 26) (i := 0) (k_.heap hb56 id)) (k := ?_)
  refine WQ.op (d := 24) (.pointer (some ⟨b, 0, none⟩)) (k := ?_)
  refine WQ.op (d := 25) (.pointer (some ⟨b, 2, none⟩)) (k := ?_)
  refine WQ.load (v := .int .i64 n) (fun w_ k_ => ld1 (T := 3) (i := 2) (k_.heap hb47 id)) (k := ?_)
  refine WQ.op (d := 27) (.bool (decide ((out.length : Int) < n))) (k := ?_)
  refine WQ.nilX (fun w62 k63 => ?_)
  replace hb47 := k63.heap hb47 id
  replace hb48 := hb48.adds k63
  replace hb56 := k63.heap hb56 id
  replace hb57 := k63.heap hb57 id
  replace hb58 := k63.heap hb58 id
  replace hb59 := k63.heap hb59 id
  replace hb60 := hb60.adds k63
  replace K := K.trans (k63.any _)
  refine WX.seqN ?_
  refine WC.cond (b := decide ((out.length : Int) < n)) (ht := fun h64 => ?_) (hf := fun h64 => ?_)
  · have ph64 := of_decide_eq_true h64
    refine WC.skip ?_
    refine WX.seqN ?_
    refine WC.block ?_
    refine WC.seq ?_
    refine WC.region ?_
    refine WL.op (d := 28) (.func (.func 28) #[] #[.pointer (some ⟨b2, 0, none⟩), .pointer (some ⟨b10, 0, none⟩), .pointer (some ⟨b22, 0, none⟩), .pointer (some ⟨b32, 0, none⟩)]) (k := ?_)
    refine bsplit (decide (GDisk.recP di (at_ + (out.length : Int)) e (out.length : Int).toNat)) (fun h65 => ?_) (fun h65 => ?_)
    · have ph65 := of_decide_eq_true h65
      refine WL.callG (d := 29) (f := 28) (args := #[.pointer (some ⟨b2, 0, none⟩), .pointer (some ⟨b10, 0, none⟩), .pointer (some ⟨b22, 0, none⟩), .pointer (some ⟨b32, 0, none⟩)]) (wlScan1_ok (e := e) hb47 hb48 hb56 hb57 hb58 hb59 hb60 n50 n51 n52 n53 n54 n55 (by omega) (by omega) (by omega) ph65) (k := fun e_ w66 h_ => ?_)
      obtain ⟨A67, c68, rfl, hb69, hb70, hb71, hb72, hb73, ho74, hd75, n76, k77⟩ := h_
      refine ⟨_, rfl, ?_⟩
      have K0_ := K
      have ol78 := olink_step ol61 K n76
      have n79 := fp_step n76 n55 hb48.lt
      replace K := K.trans' k77 (fun i hi e => e.elim (fun e => absurd (e ▸ hi) (Nat.not_lt.2 z37)) (fun e => e.elim (fun e => absurd (e ▸ hi) (Nat.not_lt.2 z27)) (fun e => e.elim (fun e => absurd hi (Nat.not_lt.2 (ol61 i e))) (fun e => (lk49 i e).elim (fun h => .inr h) (fun h => absurd hi (Nat.not_lt.2 h))))))
      clear hb47 hb56 hb57 hb58 hb59 hb60 hb48
      refine WL.op (d := 30) (.bool false) (k := ?_)
      refine WL.nil ?_
      refine WX.seqN ?_
      refine WC.condF (k := ?_)
      refine WC.skip ?_
      refine WX.blockN ?_
      rw [ph65.1] at hb73
      have lx_ : List.length (out ++ [GDisk.recT di (at_ + (out.length : Int)) e (out.length : Int).toNat]) = out.length + 1 := by simp
      refine WX.round (out ++ [GDisk.recT di (at_ + (out.length : Int)) e (out.length : Int).toNat], A67, c68, GDisk.readD di (at_ + (out.length : Int))) (by show (n.toNat - List.length (out ++ [GDisk.recT di (at_ + (out.length : Int)) e (out.length : Int).toNat])) < (n.toNat - List.length out); omega) ⟨(by kernel_rfl), (by kernel_rfl), (by kernel_rfl), (by kernel_rfl), (by kernel_rfl), (by kernel_rfl), (by kernel_rfl), (by kernel_rfl), (by kernel_rfl), (by kernel_rfl), (by kernel_rfl), (by kernel_rfl), (by kernel_rfl), (by kernel_rfl), (by kernel_rfl), (by kernel_rfl), (by kernel_rfl), (by kernel_rfl), (by kernel_rfl), (by kernel_rfl), (by kernel_rfl), trivial⟩ ⟨K, hb69, hd75, lk49, n50, n51, n52, n53, n54, n79, hb70, hb71, hb72, hb73, ho74, ol78, (scan_go hg (by omega) ph65), (by omega)⟩
    · have ph65 := of_decide_eq_false h65
      refine WL.callG (d := 29) (f := 28) (args := #[.pointer (some ⟨b2, 0, none⟩), .pointer (some ⟨b10, 0, none⟩), .pointer (some ⟨b22, 0, none⟩), .pointer (some ⟨b32, 0, none⟩)]) (wlScan1_no (e := e) hb47 hb48 hb56 hb57 hb58 hb59 hb60 n50 n51 n52 n53 n54 n55 (by omega) (by omega) (by omega) ph65) (k := fun e_ w80 h_ => ?_)
      obtain ⟨rfl, hb83, hb84, hb85, hb86, hb87, ho88, hd89, k91⟩ := h_
      refine ⟨_, rfl, ?_⟩
      replace K := K.trans' k91 (fun i hi e => e.elim (fun e => absurd (e ▸ hi) (Nat.not_lt.2 z37)) (fun e => e.elim (fun e => absurd (e ▸ hi) (Nat.not_lt.2 z27)) (fun e => e.elim (fun e => absurd hi (Nat.not_lt.2 (ol61 i e))) (fun e => (lk49 i e).elim (fun h => .inr h) (fun h => absurd hi (Nat.not_lt.2 h))))))
      clear hb47 hb56 hb57 hb58 hb59 hb60 hb48
      refine WL.op (d := 30) (.bool true) (k := ?_)
      refine WL.nil ?_
      refine WX.seqN ?_
      refine WC.condT (k := ?_)
      refine WC.exit ?_
      refine WX.blockO (by kernel_rfl) ?_
      refine WX.seqE ?_
      refine WX.blockE ?_
      refine WX.seqN ?_
      refine WC.seq ?_
      refine WC.seq ?_
      refine WC.region ?_
      refine WL.load (v := .int .i64 (GDisk.readE di (at_ + (out.length : Int)))) (ld1 (T := 37) (i := 0) hb87) (k := ?_)
      refine WL.op (d := 32) (.bool ((GDisk.readE di (at_ + (out.length : Int))) != 0)) (k := ?_)
      refine WL.nil ?_
      refine WX.seqN ?_
      refine WC.cond (b := (GDisk.readE di (at_ + (out.length : Int))) != 0) (ht := fun h92 => ?_) (hf := fun h92 => ?_)
      · have ph92 := bne_iff_ne.1 h92
        refine WC.seq ?_
        refine WC.quiet (k := ?_)
        refine WQ.load (v := .int .i64 (GDisk.readE di (at_ + (out.length : Int)))) (fun w_ k_ => ld1 (T := 37) (i := 0) (k_.heap hb87 id)) (k := ?_)
        refine WQ.op (d := 4) (.slice none 0 0) (k := ?_)
        refine WQ.op (d := 5) (.int .i64 (GDisk.readE di (at_ + (out.length : Int)))) (k := ?_)
        refine WQ.nilX (fun w93 k94 => ?_)
        replace hb83 := k94.heap hb83 id
        replace hd89 := hd89.adds k94
        replace hb84 := k94.heap hb84 id
        replace hb85 := k94.heap hb85 id
        replace hb86 := k94.heap hb86 id
        replace hb87 := k94.heap hb87 id
        replace ho88 := ho88.adds k94
        replace K := K.trans (k94.any _)
        refine WX.seqN ?_
        refine WC.ret ?_
        refine WX.seqR ?_
        refine WX.scopeR ?_
        refine WX.ret (rs := [.tmp 4, .tmp 5]) [.slice none 0 0, .int .i64 (GDisk.readE di (at_ + (out.length : Int)))] (.tuple #[.slice none 0 0, .int .i64 (GDisk.readE di (at_ + (out.length : Int)))]) ⟨(by kernel_rfl), (by kernel_rfl), trivial⟩ (k := ?_)
        have e_ := scan_stop hg (by omega) ph65
        rw [e_]
        exact ⟨rfl, hb83, hd89, K⟩
      · have ph92 := of_bne_false h92
        refine WC.skip ?_
        refine WX.seqN ?_
        refine WC.seq ?_
        refine WC.region ?_
        refine WL.load (v := .pointer (some ⟨b, 0, none⟩)) (ld1 (T := 26) (i := 0) hb84) (k := ?_)
        refine WL.load (v := .int .u64 ((e : Nat) : Int)) (ld1 (T := 32) (i := 0) hb85) (k := ?_)
        refine WL.load (v := .slice Ao out.length co) (ld1 (T := 36) (i := 0) hb86) (k := ?_)
        refine WL.op (d := 37) (.int .i64 (out.length : Int)) (k := ?_)
        refine WL.op (d := 38) (.agg #[.int .u64 ((e : Nat) : Int), .int .i64 (out.length : Int)]) (k := ?_)
        refine WL.op (d := 39) (.iface 67 (.agg #[.int .u64 ((e : Nat) : Int), .int .i64 (out.length : Int)])) (k := ?_)
        refine WL.op (d := 40) (.pointer (some ⟨b, 0, none⟩)) (k := ?_)
        refine WL.op (d := 41) (.pointer (some ⟨b, 3, none⟩)) (k := ?_)
        refine WL.store (v := .iface 67 (.agg #[.int .u64 ((e : Nat) : Int), .int .i64 (out.length : Int)])) (i := 3) (cs' := #[.pointer (some ⟨dk, 0, none⟩), .int .i64 at_, .int .i64 n, .iface 67 (.agg #[.int .u64 ((e : Nat) : Int), .int .i64 (out.length : Int)])]) hb83 (k := fun w95 hb96 k97 => ?_)
        replace hd89 := hd89.keeps k97 (fun i hi e => n50 (e ▸ hi))
        replace hb84 := k97.heap hb84 (Ne.symm n8)
        replace hb85 := k97.heap hb85 (Ne.symm n16)
        replace hb86 := k97.heap hb86 (Ne.symm n28)
        replace hb87 := k97.heap hb87 (Ne.symm n38)
        replace ho88 := ho88.keeps k97 (fun i hi e => (ho88.offT hb83 (by decide)) (e ▸ hi))
        replace K := K.trans' k97 (fun i hi e => .inl e)
        clear hb83
        refine WL.nil ?_
        refine WX.seqN ?_
        refine WC.seq ?_
        refine WC.region ?_
        refine WL.load (v := .slice Ao out.length co) (ld1 (T := 36) (i := 0) hb86) (k := ?_)
        refine WL.op (d := 4) (.slice Ao out.length co) (k := ?_)
        refine WL.op (d := 5) (.int .i64 0) (k := ?_)
        refine WL.nil ?_
        refine WX.seqN ?_
        refine WC.ret ?_
        refine WX.scopeR ?_
        refine WX.ret (rs := [.tmp 4, .tmp 5]) [.slice Ao out.length co, .int .i64 0] (.tuple #[.slice Ao out.length co, .int .i64 0]) ⟨(by kernel_rfl), (by kernel_rfl), trivial⟩ (k := ?_)
        have e_ := scan_stop hg (by omega) ph65
        rw [e_] at hR
        exact absurd (by omega) hR
  · have ph64 := of_decide_eq_false h64
    refine WC.exit ?_
    refine WX.seqE ?_
    refine WX.seqE ?_
    refine WX.blockE ?_
    refine WX.seqN ?_
    refine WC.seq ?_
    refine WC.seq ?_
    refine WC.region ?_
    refine WL.load (v := .int .i64 0) (ld1 (T := 37) (i := 0) hb59) (k := ?_)
    refine WL.op (d := 32) (.bool false) (k := ?_)
    refine WL.nil ?_
    refine WX.seqN ?_
    refine WC.condF (k := ?_)
    refine WC.skip ?_
    refine WX.seqN ?_
    refine WC.seq ?_
    refine WC.region ?_
    refine WL.load (v := .pointer (some ⟨b, 0, none⟩)) (ld1 (T := 26) (i := 0) hb56) (k := ?_)
    refine WL.load (v := .int .u64 ((e : Nat) : Int)) (ld1 (T := 32) (i := 0) hb57) (k := ?_)
    refine WL.load (v := .slice Ao out.length co) (ld1 (T := 36) (i := 0) hb58) (k := ?_)
    refine WL.op (d := 37) (.int .i64 (out.length : Int)) (k := ?_)
    refine WL.op (d := 38) (.agg #[.int .u64 ((e : Nat) : Int), .int .i64 (out.length : Int)]) (k := ?_)
    refine WL.op (d := 39) (.iface 67 (.agg #[.int .u64 ((e : Nat) : Int), .int .i64 (out.length : Int)])) (k := ?_)
    refine WL.op (d := 40) (.pointer (some ⟨b, 0, none⟩)) (k := ?_)
    refine WL.op (d := 41) (.pointer (some ⟨b, 3, none⟩)) (k := ?_)
    refine WL.store (v := .iface 67 (.agg #[.int .u64 ((e : Nat) : Int), .int .i64 (out.length : Int)])) (i := 3) (cs' := #[.pointer (some ⟨dk, 0, none⟩), .int .i64 at_, .int .i64 n, .iface 67 (.agg #[.int .u64 ((e : Nat) : Int), .int .i64 (out.length : Int)])]) hb47 (k := fun w98 hb99 k100 => ?_)
    replace hb48 := hb48.keeps k100 (fun i hi e => n50 (e ▸ hi))
    replace hb56 := k100.heap hb56 (Ne.symm n8)
    replace hb57 := k100.heap hb57 (Ne.symm n16)
    replace hb58 := k100.heap hb58 (Ne.symm n28)
    replace hb59 := k100.heap hb59 (Ne.symm n38)
    replace hb60 := hb60.keeps k100 (fun i hi e => (hb60.offT hb47 (by decide)) (e ▸ hi))
    replace K := K.trans' k100 (fun i hi e => .inl e)
    clear hb47
    refine WL.nil ?_
    refine WX.seqN ?_
    refine WC.seq ?_
    refine WC.region ?_
    refine WL.load (v := .slice Ao out.length co) (ld1 (T := 36) (i := 0) hb58) (k := ?_)
    refine WL.op (d := 4) (.slice Ao out.length co) (k := ?_)
    refine WL.op (d := 5) (.int .i64 0) (k := ?_)
    refine WL.nil ?_
    refine WX.seqN ?_
    refine WC.ret ?_
    refine WX.scopeR ?_
    refine WX.ret (rs := [.tmp 4, .tmp 5]) [.slice Ao out.length co, .int .i64 0] (.tuple #[.slice Ao out.length co, .int .i64 0]) ⟨(by kernel_rfl), (by kernel_rfl), trivial⟩ (k := ?_)
    have e_ := scan_end hg (by omega)
    rw [e_] at hR
    exact absurd rfl hR
end Go.Proofs.YtnkkbeafcfjkmaaGreatDoor
namespace Go.Proofs.YtnkkbeafcfjkmaaGreatDoor
open Go.RowKit
set_option linter.unusedVariables false
set_option linter.unusedSimpArgs false
set_option maxRecDepth 100000 in
set_option maxHeartbeats 4000000 in
theorem wlNew_ok {S : Nat → Prop} {dk : Nat} {d : GDisk} {at_ n : Int} {w : World} (hd : DiskAt S dk d w) (z0 : -9223372036854775808 ≤ at_ ∧ at_ ≤ 9223372036854775807) (z1 : -9223372036854775808 ≤ n ∧ n ≤ 9223372036854775807) (hc : 0 ≤ at_ ∧ 1 ≤ n ∧ at_ ≤ (d.secs.length : Int) - n) : Calls Tryz.prog 6 #[.pointer (some ⟨dk, 0, none⟩), .int .i64 at_, .int .i64 n] w fun e w' => ∃ b, e = .returned (.pointer (some ⟨b, 0, none⟩)) ∧ w.heap.size ≤ b ∧ w'.heap[b]? = some (.cells #[.pointer (some ⟨dk, 0, none⟩), .int .i64 at_, .int .i64 n, .iface 56 (.agg #[])] 60 (0, 0)) ∧ Adds w w' := by
  have K : Keeps (fun _ => False) w w := Keeps.refl _ w
  have lk0 : ∀ k, S k → S k ∨ w.heap.size ≤ k := fun k h => .inl h
  have dl_ := hd.ok.2.2.2.2.1
  refine Calls.start Tryz.func6 rfl (by kernel_rfl) ?_
  refine WC.seq ?_
  refine WC.region ?_
  refine WL.op (d := 6) (.pointer none) (k := ?_)
  refine WL.nil ?_
  refine WX.seqN ?_
  refine WC.seq ?_
  refine WC.seq ?_
  refine WC.region ?_
  refine WL.op (d := 7) (.int .i64 at_) (k := ?_)
  refine WL.op (d := 8) (.bool (decide (at_ < 0))) (k := ?_)
  refine WL.op (d := 9) (.bool (decide (at_ < 0))) (k := ?_)
  refine bsplit (decide (at_ < 0)) (fun h1 => ?_) (fun h1 => ?_)
  · have ph1 := of_decide_eq_true h1
    refine WL.rw (t := 9) (v := .bool true) (congrArg Value.bool h1) (k := ?_)
    refine WL.skip (d := 10) (k := ?_)
    refine WL.skip (d := 11) (k := ?_)
    refine WL.op (d := 12) (.bool true) (k := ?_)
    refine WL.op (d := 13) (.bool true) (k := ?_)
    refine WL.skip (d := 14) (k := ?_)
    refine WL.skip (d := 15) (k := ?_)
    refine WL.skip (d := 16) (k := ?_)
    refine WL.skip (d := 17) (k := ?_)
    refine WL.skip (d := 18) (k := ?_)
    refine WL.skip (d := 19) (k := ?_)
    refine WL.op (d := 20) (.bool true) (k := ?_)
    refine WL.nil ?_
    refine WX.seqN ?_
    refine WC.condT (k := ?_)
    refine WC.seq ?_
    refine WC.region ?_
    refine WL.op (d := 6) (.pointer none) (k := ?_)
    refine WL.nil ?_
    refine WX.seqN ?_
    refine WC.ret ?_
    refine WX.seqR ?_
    refine WX.ret (rs := [.tmp 6]) [.pointer none] (.pointer none) ⟨(by kernel_rfl), trivial⟩ (k := ?_)
    exfalso; omega
  · have ph1 := of_decide_eq_false h1
    refine WL.rw (t := 9) (v := .bool false) (congrArg Value.bool h1) (k := ?_)
    refine WL.op (d := 10) (.int .i64 n) (k := ?_)
    refine WL.op (d := 11) (.bool (decide (n < 1))) (k := ?_)
    refine WL.op (d := 12) (.bool (decide (n < 1))) (k := ?_)
    refine WL.op (d := 13) (.bool (decide (n < 1))) (k := ?_)
    refine bsplit (decide (n < 1)) (fun h2 => ?_) (fun h2 => ?_)
    · have ph2 := of_decide_eq_true h2
      refine WL.rw (t := 13) (v := .bool true) (congrArg Value.bool h2) (k := ?_)
      refine WL.skip (d := 14) (k := ?_)
      refine WL.skip (d := 15) (k := ?_)
      refine WL.skip (d := 16) (k := ?_)
      refine WL.skip (d := 17) (k := ?_)
      refine WL.skip (d := 18) (k := ?_)
      refine WL.skip (d := 19) (k := ?_)
      refine WL.op (d := 20) (.bool true) (k := ?_)
      refine WL.nil ?_
      refine WX.seqN ?_
      refine WC.condT (k := ?_)
      refine WC.seq ?_
      refine WC.region ?_
      refine WL.op (d := 6) (.pointer none) (k := ?_)
      refine WL.nil ?_
      refine WX.seqN ?_
      refine WC.ret ?_
      refine WX.seqR ?_
      refine WX.ret (rs := [.tmp 6]) [.pointer none] (.pointer none) ⟨(by kernel_rfl), trivial⟩ (k := ?_)
      exfalso; omega
    · have ph2 := of_decide_eq_false h2
      refine WL.rw (t := 13) (v := .bool false) (congrArg Value.bool h2) (k := ?_)
      refine WL.op (d := 14) (.int .i64 at_) (k := ?_)
      refine WL.op (d := 15) (.pointer (some ⟨dk, 0, none⟩)) (k := ?_)
      refine WL.callG (d := 16) (f := 27) (args := #[.pointer (some ⟨dk, 0, none⟩)]) (dLen_d hd) (k := fun e_ w3 h_ => ⟨.int .i64 ((GDisk.secs d).length : Int), h_.1, ?_⟩)
      have k4 := h_.2; clear h_
      replace hd := hd.adds k4
      replace K := K.trans (k4.any _)
      refine WL.op (d := 17) (.int .i64 n) (k := ?_)
      refine WL.opE (d := 18) (.int .i64 (IntKind.i64.wrap (((GDisk.secs d).length : Int) - n))) (v := .int .i64 (((GDisk.secs d).length : Int) - n)) (congrArg (Value.int .i64) (IntWalk.i64_in _ (by omega))) (k := ?_)
      refine WL.op (d := 19) (.bool (decide (at_ > (((GDisk.secs d).length : Int) - n)))) (k := ?_)
      refine WL.op (d := 20) (.bool (decide (at_ > (((GDisk.secs d).length : Int) - n)))) (k := ?_)
      refine WL.nil ?_
      refine WX.seqN ?_
      refine WC.cond (b := decide (at_ > (((GDisk.secs d).length : Int) - n))) (ht := fun h5 => ?_) (hf := fun h5 => ?_)
      · have ph5 := of_decide_eq_true h5
        refine WC.seq ?_
        refine WC.region ?_
        refine WL.op (d := 6) (.pointer none) (k := ?_)
        refine WL.nil ?_
        refine WX.seqN ?_
        refine WC.ret ?_
        refine WX.seqR ?_
        refine WX.ret (rs := [.tmp 6]) [.pointer none] (.pointer none) ⟨(by kernel_rfl), trivial⟩ (k := ?_)
        exfalso; omega
      · have ph5 := of_decide_eq_false h5
        refine WC.skip ?_
        refine WX.seqN ?_
        refine WC.seq ?_
        refine WC.region ?_
        refine WL.op (d := 21) (.pointer (some ⟨dk, 0, none⟩)) (k := ?_)
        refine WL.op (d := 22) (.int .i64 at_) (k := ?_)
        refine WL.op (d := 23) (.int .i64 n) (k := ?_)
        refine WL.op (d := 24) (.agg #[]) (k := ?_)
        refine WL.op (d := 25) (.iface 56 (.agg #[])) (k := ?_)
        refine WL.op (d := 26) (.agg #[.pointer (some ⟨dk, 0, none⟩), .int .i64 at_, .int .i64 n, .iface 56 (.agg #[])]) (k := ?_)
        refine WL.new (d := 27) (T := 60) #[.pointer (some ⟨dk, 0, none⟩), .int .i64 at_, .int .i64 n, .iface 56 (.agg #[])] (k := fun b6 w7 g8 hb9 k10 => ?_)
        have z11 := Nat.le_trans K.size g8
        have n12 : ¬ S b6 := fun h => absurd (hd.lt _ h) (Nat.not_lt.2 g8)
        replace hd := hd.adds k10
        replace K := K.trans (k10.any _)
        refine WL.op (d := 6) (.pointer (some ⟨b6, 0, none⟩)) (k := ?_)
        refine WL.nil ?_
        refine WX.seqN ?_
        refine WC.ret ?_
        refine WX.ret (rs := [.tmp 6]) [.pointer (some ⟨b6, 0, none⟩)] (.pointer (some ⟨b6, 0, none⟩)) ⟨(by kernel_rfl), trivial⟩ (k := ?_)
        exact ⟨_, rfl, z11, hb9, K⟩
end Go.Proofs.YtnkkbeafcfjkmaaGreatDoor
