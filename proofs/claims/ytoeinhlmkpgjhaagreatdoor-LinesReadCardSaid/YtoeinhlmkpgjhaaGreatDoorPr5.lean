/- Lq5, Lq6, Lq61: one behind the other. -/
import Derived.Test.YtoeinhlmkpgjhaaGreatDoorPr4
namespace Go.Proofs.YtoeinhlmkpgjhaaGreatDoor
open Go.RowKit
set_option linter.unusedVariables false
set_option linter.unusedSimpArgs false
theorem iff_t {a : Nat} {x : Int} (h : (((a : Int) == 0) == (x == 58)) = true) : a = 0 ↔ x = 58 := by
  have h := eq_of_beq h
  constructor
  · intro k
    have q : ((a : Int) == 0) = true := by simp [k]
    rw [h] at q
    exact eq_of_beq q
  · intro k
    have q : (x == 58) = true := by simp [k]
    rw [← h] at q
    have := eq_of_beq q
    omega
theorem iff_f {a : Nat} {x : Int} (h : (((a : Int) == 0) == (x == 58)) = false) : ¬ (a = 0 ↔ x = 58) := fun k => by
  have q : ((a : Int) == 0) = (x == 58) := by
    rw [Bool.eq_iff_iff, beq_iff_eq, beq_iff_eq, ← k]; omega
  rw [q] at h
  simp at h
theorem cells5 {w : World} {b : Nat} {T : TypeId} {z : Nat × Nat} {a0 a1 a2 a3 a4 c0 c1 c2 c3 c4 : Int} (h : w.heap[b]? = some (.cells #[.int .i64 a0, .int .i64 a1, .int .i64 a2, .int .i64 a3, .int .i64 a4] T z)) (e0 : a0 = c0) (e1 : a1 = c1) (e2 : a2 = c2) (e3 : a3 = c3) (e4 : a4 = c4) : w.heap[b]? = some (.cells #[.int .i64 c0, .int .i64 c1, .int .i64 c2, .int .i64 c3, .int .i64 c4] T z) := by
  subst e0 e1 e2 e3 e4; exact h
set_option maxRecDepth 100000 in
set_option maxHeartbeats 4000000 in
theorem u25ParseTask_c {l : List UInt8} (hl : l.length ≤ 9223372036854775000) (w : World) : Calls Tryz.prog 11 #[.string ⟨l.toArray⟩] w fun e w' => e = .returned (.tuple #[(taskV l).val, .bool (decide (taskP l))]) ∧ Adds w w' := by
  have K : Keeps (fun _ => False) w w := Keeps.refl _ w
  refine Calls.start Tryz.func11 rfl (by kernel_rfl) ?_
  refine WC.seq ?_
  refine WC.region ?_
  refine WL.new (d := 2) (T := 29) #[.int .i64 0, .int .i64 0, .int .i64 0, .int .i64 0, .int .i64 0] (k := fun b1 w2 g3 hb4 k5 => ?_)
  have z6 := Nat.le_trans K.size g3
  replace K := K.trans (k5.any _)
  refine WL.op (d := 3) (.bool false) (k := ?_)
  refine WL.nil ?_
  refine WX.seqN ?_
  refine WC.seq ?_
  refine WC.region ?_
  refine WL.new (d := 4) (T := 59) #[.int .i64 0, .int .i64 0, .int .i64 0, .int .i64 0, .int .i64 0] (k := fun b7 w8 g9 hb10 k11 => ?_)
  have z12 := Nat.le_trans K.size g9
  have n13 : b1 ≠ b7 := Nat.ne_of_lt (Nat.lt_of_lt_of_le (lt_of_heap hb4) g9)
  replace hb4 := k11.heap hb4 id
  replace K := K.trans (k11.any _)
  refine WL.nil ?_
  refine WX.seqN ?_
  refine WC.seq ?_
  refine WC.region ?_
  refine WL.op (d := 5) (.int .i64 0) (k := ?_)
  refine WL.nil ?_
  refine WX.seqN ?_
  refine WC.seq ?_
  refine WC.region ?_
  refine WL.op (d := 6) (.int .i64 0) (k := ?_)
  refine WL.nil ?_
  refine WX.seqN ?_
  refine WC.seq ?_
  refine WC.seq ?_
  refine WC.region ?_
  refine WL.op (d := 7) (.int .i64 0) (k := ?_)
  refine WL.nil ?_
  refine WX.seqN ?_
  refine WC.block ?_
  refine WC.rw (t := 6) (v := .int .i64 (List.length ([] : List Nat) : Int)) (rfl) (k := ?_)
  refine WC.loop (ι := Int × Int × (List Nat)) (fun (⟨i, a, v⟩ : Int × Int × (List Nat)) => [(0, .string ⟨(l).toArray⟩), (2, .pointer (some ⟨b1, 0, none⟩)), (4, .pointer (some ⟨b7, 0, none⟩)), (7, .int .i64 i), (5, .int .i64 a), (6, .int .i64 (v.length : Int))]) (fun (⟨i, a, v⟩ : Int × Int × (List Nat)) (w_ : World) => (Keeps (fun _ => False) w w_) ∧ (w_.heap[b1]? = some (.cells #[.int .i64 0, .int .i64 0, .int .i64 0, .int .i64 0, .int .i64 0] 29 (0, 0))) ∧ (w_.heap[b7]? = some (.cells #[.int .i64 ((List.getD v 0 0 : Nat) : Int), .int .i64 ((List.getD v 1 0 : Nat) : Int), .int .i64 ((List.getD v 2 0 : Nat) : Int), .int .i64 ((List.getD v 3 0 : Nat) : Int), .int .i64 ((List.getD v 4 0 : Nat) : Int)] 59 (0, 0))) ∧ (0 ≤ i) ∧ (i ≤ l.length + 1) ∧ (0 ≤ a) ∧ (a ≤ i) ∧ (ptJ l i a v) ∧ (v.length ≤ 5)) (fun (⟨i, a, v⟩ : Int × Int × (List Nat)) => (l.length + 1 - i).toNat) (0, 0, []) ⟨(by kernel_rfl), (by kernel_rfl), (by kernel_rfl), (by kernel_rfl), (by kernel_rfl), (by kernel_rfl), trivial⟩ ⟨K, hb4, hb10, Int.le_refl 0, (by omega), Int.le_refl 0, Int.le_refl 0, (ptJ_zero l), (by decide)⟩ ?_
  rintro ⟨i, a, v⟩ w14 ⟨K, hb15, hb16, i0, i1, a0, a1, hj, v5⟩
  refine WC.seq ?_
  refine WC.seq ?_
  refine WC.region ?_
  refine WL.op (d := 10) (.int .i64 i) (k := ?_)
  refine WL.op (d := 11) (.string ⟨(l).toArray⟩) (k := ?_)
  refine WL.op (d := 12) (.int .i64 (l.length : Int)) (k := ?_)
  refine WL.op (d := 13) (.bool (decide (i ≤ (l.length : Int)))) (k := ?_)
  refine WL.nil ?_
  refine WX.seqN ?_
  refine WC.cond (b := decide (i ≤ (l.length : Int))) (ht := fun h17 => ?_) (hf := fun h17 => ?_)
  · have ph17 := of_decide_eq_true h17
    refine WC.skip ?_
    refine WX.seqN ?_
    refine WC.seq ?_
    refine WC.block ?_
    refine WC.seq ?_
    refine WC.seq ?_
    refine WC.region ?_
    refine WL.op (d := 16) (.int .i64 i) (k := ?_)
    refine WL.op (d := 17) (.string ⟨(l).toArray⟩) (k := ?_)
    refine WL.op (d := 18) (.int .i64 (l.length : Int)) (k := ?_)
    refine WL.op (d := 19) (.bool (decide (i < (l.length : Int)))) (k := ?_)
    refine WL.op (d := 20) (.bool (decide (i < (l.length : Int)))) (k := ?_)
    refine bsplit (decide (i < (l.length : Int))) (fun h18 => ?_) (fun h18 => ?_)
    · have ph18 := of_decide_eq_true h18
      refine WL.rw (t := 20) (v := .bool true) (congrArg Value.bool h18) (k := ?_)
      refine WL.op (d := 21) (.string ⟨(l).toArray⟩) (k := ?_)
      refine WL.op (d := 22) (.int .i64 i) (k := ?_)
      refine WL.strAt (T := 9) (l := l) (i := i) (kk := .i64) (d := 23) (by omega) (by first | omega | (simp; omega)) (by kernel_rfl) (by kernel_rfl) (by kernel_rfl) (by kernel_rfl) (by kernel_rfl) ?_
      have ub19 := u8_lt (List.getD l (i).toNat 0)
      refine WL.op (d := 24) (.bool (((List.getD l (i).toNat 0).toNat : Int) != 58)) (k := ?_)
      refine WL.op (d := 25) (.bool (((List.getD l (i).toNat 0).toNat : Int) != 58)) (k := ?_)
      refine WL.op (d := 26) (.bool (((List.getD l (i).toNat 0).toNat : Int) != 58)) (k := ?_)
      refine bsplit (((List.getD l (i).toNat 0).toNat : Int) != 58) (fun h20 => ?_) (fun h20 => ?_)
      · have ph20 := bne_iff_ne.1 h20
        refine WL.rw (t := 26) (v := .bool true) (congrArg Value.bool h20) (k := ?_)
        refine WL.op (d := 27) (.string ⟨(l).toArray⟩) (k := ?_)
        refine WL.op (d := 28) (.int .i64 i) (k := ?_)
        refine WL.strAt (T := 9) (l := l) (i := i) (kk := .i64) (d := 29) (by omega) (by first | omega | (simp; omega)) (by kernel_rfl) (by kernel_rfl) (by kernel_rfl) (by kernel_rfl) (by kernel_rfl) ?_
        have ub21 := u8_lt (List.getD l (i).toNat 0)
        refine WL.op (d := 30) (.bool (((List.getD l (i).toNat 0).toNat : Int) != 47)) (k := ?_)
        refine WL.op (d := 31) (.bool (((List.getD l (i).toNat 0).toNat : Int) != 47)) (k := ?_)
        refine WL.nil ?_
        refine WX.seqN ?_
        refine WC.cond (b := ((List.getD l (i).toNat 0).toNat : Int) != 47) (ht := fun h22 => ?_) (hf := fun h22 => ?_)
        · have ph22 := bne_iff_ne.1 h22
          refine WC.exit ?_
          refine WX.seqE ?_
          refine WX.blockE ?_
          refine WX.seqN ?_
          refine WC.region ?_
          refine WL.op (d := 14) (.int .i64 i) (k := ?_)
          refine WL.opE (d := 15) (.int .i64 (IntKind.i64.wrap (i + 1))) (v := .int .i64 (i + 1)) (congrArg (Value.int .i64) (IntWalk.i64_in _ (by omega))) (k := ?_)
          refine WL.op (d := 7) (.int .i64 (i + 1)) (k := ?_)
          refine WL.nil ?_
          refine WX.round (i + 1, a, v) (by show (l.length + 1 - (i + 1)).toNat < (l.length + 1 - i).toNat; omega) ⟨(by kernel_rfl), (by kernel_rfl), (by kernel_rfl), (by kernel_rfl), (by kernel_rfl), (by kernel_rfl), trivial⟩ ⟨K, hb15, hb16, (by omega), (by omega), (by omega), (by omega), (ptJ_skip hj a0 a1 (by omega) (by omega) (by omega)), (by omega)⟩
        · have ph22 := of_bne_false h22
          refine WC.skip ?_
          refine WX.seqN ?_
          refine WC.seq ?_
          refine WC.seq ?_
          refine WC.region ?_
          refine WL.op (d := 32) (.int .i64 (v.length : Int)) (k := ?_)
          refine WL.op (d := 33) (.bool (decide ((v.length : Int) > 4))) (k := ?_)
          refine WL.op (d := 34) (.bool (decide ((v.length : Int) > 4))) (k := ?_)
          refine bsplit (decide ((v.length : Int) > 4)) (fun h23 => ?_) (fun h23 => ?_)
          · have ph23 := of_decide_eq_true h23
            refine WL.rw (t := 34) (v := .bool true) (congrArg Value.bool h23) (k := ?_)
            refine WL.skip (d := 35) (k := ?_)
            refine WL.skip (d := 36) (k := ?_)
            refine WL.skip (d := 37) (k := ?_)
            refine WL.skip (d := 38) (k := ?_)
            refine WL.skip (d := 39) (k := ?_)
            refine WL.skip (d := 40) (k := ?_)
            refine WL.skip (d := 41) (k := ?_)
            refine WL.skip (d := 42) (k := ?_)
            refine WL.skip (d := 43) (k := ?_)
            refine WL.skip (d := 44) (k := ?_)
            refine WL.skip (d := 45) (k := ?_)
            refine WL.skip (d := 46) (k := ?_)
            refine WL.skip (d := 47) (k := ?_)
            refine WL.op (d := 48) (.bool true) (k := ?_)
            refine WL.nil ?_
            refine WX.seqN ?_
            refine WC.condT (k := ?_)
            refine WC.seq ?_
            refine WC.region ?_
            refine WL.op (d := 49) (.agg #[.int .i64 0, .int .i64 0, .int .i64 0, .int .i64 0, .int .i64 0]) (k := ?_)
            refine WL.store (v := .agg #[.int .i64 0, .int .i64 0, .int .i64 0, .int .i64 0, .int .i64 0]) (i := 0) (cs' := #[.int .i64 0, .int .i64 0, .int .i64 0, .int .i64 0, .int .i64 0]) hb15 (k := fun w24 hb25 k26 => ?_)
            replace hb16 := k26.heap hb16 (Ne.symm n13)
            replace K := K.trans' k26 (fun i hi e => absurd (e ▸ hi) (Nat.not_lt.2 z6))
            clear hb15
            refine WL.op (d := 3) (.bool false) (k := ?_)
            refine WL.nil ?_
            refine WX.seqN ?_
            refine WC.ret ?_
            refine WX.seqR ?_
            refine WX.blockR ?_
            refine WX.seqR ?_
            refine WX.seqR ?_
            refine WX.blockR ?_
            refine WX.seqR ?_
            refine WX.ret (rs := [.cell 2 29, .tmp 3]) [.agg #[.int .i64 0, .int .i64 0, .int .i64 0, .int .i64 0, .int .i64 0], .bool false] (.tuple #[.agg #[.int .i64 0, .int .i64 0, .int .i64 0, .int .i64 0, .int .i64 0], .bool false]) ⟨⟨_, (by kernel_rfl), ldN (T := 29) (i := 0) (m := 5) (l := [.int .i64 0, .int .i64 0, .int .i64 0, .int .i64 0, .int .i64 0]) hb25⟩, (by kernel_rfl), trivial⟩ (k := ?_)
            obtain ⟨e1_, e2_⟩ := task_no (s := l) (ptJ_no hj a0 a1 (by omega) (by omega) (by omega))
            exact ⟨by rw [e1_, e2_]; first | done | rfl, K⟩
          have ph23 := of_decide_eq_false h23
          refine WL.rw (t := 34) (v := .bool false) (congrArg Value.bool h23) (k := ?_)
          refine WL.op (d := 35) (.int .i64 i) (k := ?_)
          refine WL.op (d := 36) (.string ⟨(l).toArray⟩) (k := ?_)
          refine WL.op (d := 37) (.int .i64 (l.length : Int)) (k := ?_)
          refine WL.op (d := 38) (.bool (decide (i < (l.length : Int)))) (k := ?_)
          refine WL.op (d := 39) (.bool (decide (i < (l.length : Int)))) (k := ?_)
          refine WL.rw (t := 39) (v := .bool true) (congrArg Value.bool h18) (k := ?_)
          refine WL.op (d := 40) (.int .i64 (v.length : Int)) (k := ?_)
          refine WL.op (d := 41) (.bool ((v.length : Int) == 0)) (k := ?_)
          refine WL.op (d := 42) (.string ⟨(l).toArray⟩) (k := ?_)
          refine WL.op (d := 43) (.int .i64 i) (k := ?_)
          refine WL.strAt (T := 9) (l := l) (i := i) (kk := .i64) (d := 44) (by omega) (by first | omega | (simp; omega)) (by kernel_rfl) (by kernel_rfl) (by kernel_rfl) (by kernel_rfl) (by kernel_rfl) ?_
          have ub27 := u8_lt (List.getD l (i).toNat 0)
          refine WL.op (d := 45) (.bool (((List.getD l (i).toNat 0).toNat : Int) == 58)) (k := ?_)
          refine WL.op (d := 46) (.bool (!(((v.length : Int) == 0) == (((List.getD l (i).toNat 0).toNat : Int) == 58)))) (k := ?_)
          refine WL.op (d := 47) (.bool (!(((v.length : Int) == 0) == (((List.getD l (i).toNat 0).toNat : Int) == 58)))) (k := ?_)
          refine WL.op (d := 48) (.bool (!(((v.length : Int) == 0) == (((List.getD l (i).toNat 0).toNat : Int) == 58)))) (k := ?_)
          refine WL.nil ?_
          refine WX.seqN ?_
          refine WC.cond (b := !(((v.length : Int) == 0) == (((List.getD l (i).toNat 0).toNat : Int) == 58))) (ht := fun h28 => ?_) (hf := fun h28 => ?_)
          · have h29 : (((v.length : Int) == 0) == (((List.getD l (i).toNat 0).toNat : Int) == 58)) = false := Bool.not_inj (y := false) h28
            have ph29 := ne_of_beq_false h29
            refine WC.seq ?_
            refine WC.region ?_
            refine WL.op (d := 49) (.agg #[.int .i64 0, .int .i64 0, .int .i64 0, .int .i64 0, .int .i64 0]) (k := ?_)
            refine WL.store (v := .agg #[.int .i64 0, .int .i64 0, .int .i64 0, .int .i64 0, .int .i64 0]) (i := 0) (cs' := #[.int .i64 0, .int .i64 0, .int .i64 0, .int .i64 0, .int .i64 0]) hb15 (k := fun w30 hb31 k32 => ?_)
            replace hb16 := k32.heap hb16 (Ne.symm n13)
            replace K := K.trans' k32 (fun i hi e => absurd (e ▸ hi) (Nat.not_lt.2 z6))
            clear hb15
            refine WL.op (d := 3) (.bool false) (k := ?_)
            refine WL.nil ?_
            refine WX.seqN ?_
            refine WC.ret ?_
            refine WX.seqR ?_
            refine WX.blockR ?_
            refine WX.seqR ?_
            refine WX.seqR ?_
            refine WX.blockR ?_
            refine WX.seqR ?_
            refine WX.ret (rs := [.cell 2 29, .tmp 3]) [.agg #[.int .i64 0, .int .i64 0, .int .i64 0, .int .i64 0, .int .i64 0], .bool false] (.tuple #[.agg #[.int .i64 0, .int .i64 0, .int .i64 0, .int .i64 0, .int .i64 0], .bool false]) ⟨⟨_, (by kernel_rfl), ldN (T := 29) (i := 0) (m := 5) (l := [.int .i64 0, .int .i64 0, .int .i64 0, .int .i64 0, .int .i64 0]) hb31⟩, (by kernel_rfl), trivial⟩ (k := ?_)
            obtain ⟨e1_, e2_⟩ := task_no (s := l) (ptJ_no hj a0 a1 (by omega) (by omega) (.inr (.inl ⟨by omega, iff_f h29⟩)))
            exact ⟨by rw [e1_, e2_]; first | done | rfl, K⟩
          · have h33 : (((v.length : Int) == 0) == (((List.getD l (i).toNat 0).toNat : Int) == 58)) = true := Bool.not_inj (y := true) h28
            have ph33 := eq_of_beq h33
            refine WC.skip ?_
            refine WX.seqN ?_
            refine WC.seq ?_
            refine WC.region ?_
            refine WL.op (d := 50) (.int .i64 (v.length : Int)) (k := ?_)
            refine WL.op (d := 51) (.string ⟨(l).toArray⟩) (k := ?_)
            refine WL.op (d := 52) (.int .i64 a) (k := ?_)
            refine WL.op (d := 53) (.int .i64 i) (k := ?_)
            refine WL.cut (d := 54) (vx := .string ⟨(l).toArray⟩) (lo' := (some (.int .i64 a))) (hi' := (some (.int .i64 i))) (mx' := none) (v := .string ⟨(List.drop a.toNat (List.take i.toNat l)).toArray⟩) (run_cut (P := Tryz.prog) (w := w14) (lo := (some (.int .i64 a))) (hi := (some (.int .i64 i))) (T := 9) (a := a.toNat) (b := i.toNat) (l := l) (by kernel_rfl) (.inr ⟨_, _, rfl, by omega⟩) (.inr ⟨_, _, rfl, by omega⟩) (by first | omega | (simp; omega)) (by first | omega | (simp; omega))) (k := ?_)
            refine WL.callG (d := 55) (f := 31) (args := #[.string ⟨(List.drop a.toNat (List.take i.toNat l)).toArray⟩]) (u25number_c (l := (List.drop a.toNat (List.take i.toNat l))) (by first | omega | (simp; omega)) w14) (k := fun e_ w35 h_ => ⟨.int .i64 (numR (List.drop a.toNat (List.take i.toNat l))), h_.1, ?_⟩)
            have k36 := h_.2; clear h_
            replace hb15 := k36.heap hb15 id
            replace hb16 := k36.heap hb16 id
            replace K := K.trans (k36.any _)
            have nr34 := numR_rng (List.drop a.toNat (List.take i.toNat l))
            refine bsplit ((v.length : Int) == 0) (fun h37 => ?_) (fun h37 => ?_)
            · have ph37 := eq_of_beq h37
              refine WL.rw (t := 50) (v := .int .i64 0) (congrArg (Value.int .i64) (eq_of_beq h37)) (k := ?_)
              refine WL.op (d := 56) (.pointer (some ⟨b7, 0, none⟩)) (k := ?_)
              refine WL.store (v := .int .i64 (numR (List.drop a.toNat (List.take i.toNat l)))) (i := 0) (cs' := #[.int .i64 (numR (List.drop a.toNat (List.take i.toNat l))), .int .i64 ((List.getD v 1 0 : Nat) : Int), .int .i64 ((List.getD v 2 0 : Nat) : Int), .int .i64 ((List.getD v 3 0 : Nat) : Int), .int .i64 ((List.getD v 4 0 : Nat) : Int)]) hb16 (k := fun w38 hb39 k40 => ?_)
              replace hb15 := k40.heap hb15 n13
              replace K := K.trans' k40 (fun i hi e => absurd (e ▸ hi) (Nat.not_lt.2 z12))
              clear hb16
              refine WL.nil ?_
              refine WX.seqN ?_
              refine WC.seq ?_
              refine WC.seq ?_
              refine WC.region ?_
              refine WL.op (d := 57) (.int .i64 (v.length : Int)) (k := ?_)
              refine WL.rw (t := 57) (v := .int .i64 0) (congrArg (Value.int .i64) (eq_of_beq h37)) (k := ?_)
              refine WL.op (d := 58) (.pointer (some ⟨b7, 0, none⟩)) (k := ?_)
              refine WL.load (v := .int .i64 (numR (List.drop a.toNat (List.take i.toNat l)))) (ld1 (T := 2) (i := 0) hb39) (k := ?_)
              refine WL.op (d := 60) (.bool (decide ((numR (List.drop a.toNat (List.take i.toNat l))) < 0))) (k := ?_)
              refine WL.nil ?_
              refine WX.seqN ?_
              refine WC.cond (b := decide ((numR (List.drop a.toNat (List.take i.toNat l))) < 0)) (ht := fun h41 => ?_) (hf := fun h41 => ?_)
              · have ph41 := of_decide_eq_true h41
                refine WC.seq ?_
                refine WC.region ?_
                refine WL.op (d := 61) (.agg #[.int .i64 0, .int .i64 0, .int .i64 0, .int .i64 0, .int .i64 0]) (k := ?_)
                refine WL.store (v := .agg #[.int .i64 0, .int .i64 0, .int .i64 0, .int .i64 0, .int .i64 0]) (i := 0) (cs' := #[.int .i64 0, .int .i64 0, .int .i64 0, .int .i64 0, .int .i64 0]) hb15 (k := fun w42 hb43 k44 => ?_)
                replace hb39 := k44.heap hb39 (Ne.symm n13)
                replace K := K.trans' k44 (fun i hi e => absurd (e ▸ hi) (Nat.not_lt.2 z6))
                clear hb15
                refine WL.op (d := 3) (.bool false) (k := ?_)
                refine WL.nil ?_
                refine WX.seqN ?_
                refine WC.ret ?_
                refine WX.seqR ?_
                refine WX.blockR ?_
                refine WX.seqR ?_
                refine WX.seqR ?_
                refine WX.blockR ?_
                refine WX.seqR ?_
                refine WX.ret (rs := [.cell 2 29, .tmp 3]) [.agg #[.int .i64 0, .int .i64 0, .int .i64 0, .int .i64 0, .int .i64 0], .bool false] (.tuple #[.agg #[.int .i64 0, .int .i64 0, .int .i64 0, .int .i64 0, .int .i64 0], .bool false]) ⟨⟨_, (by kernel_rfl), ldN (T := 29) (i := 0) (m := 5) (l := [.int .i64 0, .int .i64 0, .int .i64 0, .int .i64 0, .int .i64 0]) hb43⟩, (by kernel_rfl), trivial⟩ (k := ?_)
                obtain ⟨e1_, e2_⟩ := task_no (s := l) (ptJ_no hj a0 a1 (by omega) (by omega) (.inr (.inr (fun k_ => absurd (numR_pos.2 k_) (by omega)))))
                exact ⟨by rw [e1_, e2_]; first | done | rfl, K⟩
              · have ph41 := of_decide_eq_false h41
                refine WC.skip ?_
                refine WX.seqN ?_
                refine WC.seq ?_
                refine WC.region ?_
                refine WL.op (d := 62) (.int .i64 (v.length : Int)) (k := ?_)
                refine WL.opE (d := 63) (.int .i64 (IntKind.i64.wrap ((v.length : Int) + 1))) (v := .int .i64 ((v.length : Int) + 1)) (congrArg (Value.int .i64) (IntWalk.i64_in _ (by omega))) (k := ?_)
                refine WL.op (d := 6) (.int .i64 ((v.length : Int) + 1)) (k := ?_)
                refine WL.nil ?_
                refine WX.seqN ?_
                refine WC.region ?_
                refine WL.op (d := 64) (.int .i64 i) (k := ?_)
                refine WL.opE (d := 65) (.int .i64 (IntKind.i64.wrap (i + 1))) (v := .int .i64 (i + 1)) (congrArg (Value.int .i64) (IntWalk.i64_in _ (by omega))) (k := ?_)
                refine WL.op (d := 5) (.int .i64 (i + 1)) (k := ?_)
                refine WL.nil ?_
                refine WX.blockN ?_
                refine WX.seqN ?_
                refine WC.region ?_
                refine WL.op (d := 14) (.int .i64 i) (k := ?_)
                refine WL.opE (d := 15) (.int .i64 (IntKind.i64.wrap (i + 1))) (v := .int .i64 (i + 1)) (congrArg (Value.int .i64) (IntWalk.i64_in _ (by omega))) (k := ?_)
                refine WL.op (d := 7) (.int .i64 (i + 1)) (k := ?_)
                refine WL.nil ?_
                have pn46 : numP (List.drop (a).toNat (List.take (i).toNat l)) := numR_pos.1 (by omega)
                have vl_ : v.length = 0 := by omega
                have hb45 := cells5 hb39 (gd_at vl_ pn46) (gd_other (x := numV (List.drop (a).toNat (List.take (i).toNat l))) (m := 1) (by omega)) (gd_other (x := numV (List.drop (a).toNat (List.take (i).toNat l))) (m := 2) (by omega)) (gd_other (x := numV (List.drop (a).toNat (List.take (i).toNat l))) (m := 3) (by omega)) (gd_other (x := numV (List.drop (a).toNat (List.take (i).toNat l))) (m := 4) (by omega))
                clear hb39
                refine WX.rw (t := 6) (v := .int .i64 (List.length (v ++ [numV (List.drop (a).toNat (List.take (i).toNat l))]) : Int)) (congrArg (Value.int .i64) (show ((v.length : Int) + 1) = (List.length (v ++ [numV (List.drop (a).toNat (List.take (i).toNat l))]) : Int) from by simp)) (k := ?_)
                refine WX.round (i + 1, i + 1, (v ++ [numV (List.drop (a).toNat (List.take (i).toNat l))])) (by show (l.length + 1 - (i + 1)).toNat < (l.length + 1 - i).toNat; omega) ⟨(by kernel_rfl), (by kernel_rfl), (by kernel_rfl), (by kernel_rfl), (by kernel_rfl), (by kernel_rfl), trivial⟩ ⟨K, hb15, hb45, (by omega), (by omega), (by omega), (by omega), (ptJ_step hj a0 a1 (by omega) (by omega) (by omega) (fun q_ => iff_t h33) (numR_pos.1 (by omega))), (by simp; omega)⟩
            have ph37 := ne_of_beq_false h37
            refine bsplit ((v.length : Int) == 1) (fun h47 => ?_) (fun h47 => ?_)
            · have ph47 := eq_of_beq h47
              refine WL.rw (t := 50) (v := .int .i64 1) (congrArg (Value.int .i64) (eq_of_beq h47)) (k := ?_)
              refine WL.op (d := 56) (.pointer (some ⟨b7, 1, none⟩)) (k := ?_)
              refine WL.store (v := .int .i64 (numR (List.drop a.toNat (List.take i.toNat l)))) (i := 1) (cs' := #[.int .i64 ((List.getD v 0 0 : Nat) : Int), .int .i64 (numR (List.drop a.toNat (List.take i.toNat l))), .int .i64 ((List.getD v 2 0 : Nat) : Int), .int .i64 ((List.getD v 3 0 : Nat) : Int), .int .i64 ((List.getD v 4 0 : Nat) : Int)]) hb16 (k := fun w48 hb49 k50 => ?_)
              replace hb15 := k50.heap hb15 n13
              replace K := K.trans' k50 (fun i hi e => absurd (e ▸ hi) (Nat.not_lt.2 z12))
              clear hb16
              refine WL.nil ?_
              refine WX.seqN ?_
              refine WC.seq ?_
              refine WC.seq ?_
              refine WC.region ?_
              refine WL.op (d := 57) (.int .i64 (v.length : Int)) (k := ?_)
              refine WL.rw (t := 57) (v := .int .i64 1) (congrArg (Value.int .i64) (eq_of_beq h47)) (k := ?_)
              refine WL.op (d := 58) (.pointer (some ⟨b7, 1, none⟩)) (k := ?_)
              refine WL.load (v := .int .i64 (numR (List.drop a.toNat (List.take i.toNat l)))) (ld1 (T := 2) (i := 1) hb49) (k := ?_)
              refine WL.op (d := 60) (.bool (decide ((numR (List.drop a.toNat (List.take i.toNat l))) < 0))) (k := ?_)
              refine WL.nil ?_
              refine WX.seqN ?_
              refine WC.cond (b := decide ((numR (List.drop a.toNat (List.take i.toNat l))) < 0)) (ht := fun h51 => ?_) (hf := fun h51 => ?_)
              · have ph51 := of_decide_eq_true h51
                refine WC.seq ?_
                refine WC.region ?_
                refine WL.op (d := 61) (.agg #[.int .i64 0, .int .i64 0, .int .i64 0, .int .i64 0, .int .i64 0]) (k := ?_)
                refine WL.store (v := .agg #[.int .i64 0, .int .i64 0, .int .i64 0, .int .i64 0, .int .i64 0]) (i := 0) (cs' := #[.int .i64 0, .int .i64 0, .int .i64 0, .int .i64 0, .int .i64 0]) hb15 (k := fun w52 hb53 k54 => ?_)
                replace hb49 := k54.heap hb49 (Ne.symm n13)
                replace K := K.trans' k54 (fun i hi e => absurd (e ▸ hi) (Nat.not_lt.2 z6))
                clear hb15
                refine WL.op (d := 3) (.bool false) (k := ?_)
                refine WL.nil ?_
                refine WX.seqN ?_
                refine WC.ret ?_
                refine WX.seqR ?_
                refine WX.blockR ?_
                refine WX.seqR ?_
                refine WX.seqR ?_
                refine WX.blockR ?_
                refine WX.seqR ?_
                refine WX.ret (rs := [.cell 2 29, .tmp 3]) [.agg #[.int .i64 0, .int .i64 0, .int .i64 0, .int .i64 0, .int .i64 0], .bool false] (.tuple #[.agg #[.int .i64 0, .int .i64 0, .int .i64 0, .int .i64 0, .int .i64 0], .bool false]) ⟨⟨_, (by kernel_rfl), ldN (T := 29) (i := 0) (m := 5) (l := [.int .i64 0, .int .i64 0, .int .i64 0, .int .i64 0, .int .i64 0]) hb53⟩, (by kernel_rfl), trivial⟩ (k := ?_)
                obtain ⟨e1_, e2_⟩ := task_no (s := l) (ptJ_no hj a0 a1 (by omega) (by omega) (.inr (.inr (fun k_ => absurd (numR_pos.2 k_) (by omega)))))
                exact ⟨by rw [e1_, e2_]; first | done | rfl, K⟩
              · have ph51 := of_decide_eq_false h51
                refine WC.skip ?_
                refine WX.seqN ?_
                refine WC.seq ?_
                refine WC.region ?_
                refine WL.op (d := 62) (.int .i64 (v.length : Int)) (k := ?_)
                refine WL.opE (d := 63) (.int .i64 (IntKind.i64.wrap ((v.length : Int) + 1))) (v := .int .i64 ((v.length : Int) + 1)) (congrArg (Value.int .i64) (IntWalk.i64_in _ (by omega))) (k := ?_)
                refine WL.op (d := 6) (.int .i64 ((v.length : Int) + 1)) (k := ?_)
                refine WL.nil ?_
                refine WX.seqN ?_
                refine WC.region ?_
                refine WL.op (d := 64) (.int .i64 i) (k := ?_)
                refine WL.opE (d := 65) (.int .i64 (IntKind.i64.wrap (i + 1))) (v := .int .i64 (i + 1)) (congrArg (Value.int .i64) (IntWalk.i64_in _ (by omega))) (k := ?_)
                refine WL.op (d := 5) (.int .i64 (i + 1)) (k := ?_)
                refine WL.nil ?_
                refine WX.blockN ?_
                refine WX.seqN ?_
                refine WC.region ?_
                refine WL.op (d := 14) (.int .i64 i) (k := ?_)
                refine WL.opE (d := 15) (.int .i64 (IntKind.i64.wrap (i + 1))) (v := .int .i64 (i + 1)) (congrArg (Value.int .i64) (IntWalk.i64_in _ (by omega))) (k := ?_)
                refine WL.op (d := 7) (.int .i64 (i + 1)) (k := ?_)
                refine WL.nil ?_
                have pn56 : numP (List.drop (a).toNat (List.take (i).toNat l)) := numR_pos.1 (by omega)
                have vl_ : v.length = 1 := by omega
                have hb55 := cells5 hb49 (gd_other (x := numV (List.drop (a).toNat (List.take (i).toNat l))) (m := 0) (by omega)) (gd_at vl_ pn56) (gd_other (x := numV (List.drop (a).toNat (List.take (i).toNat l))) (m := 2) (by omega)) (gd_other (x := numV (List.drop (a).toNat (List.take (i).toNat l))) (m := 3) (by omega)) (gd_other (x := numV (List.drop (a).toNat (List.take (i).toNat l))) (m := 4) (by omega))
                clear hb49
                refine WX.rw (t := 6) (v := .int .i64 (List.length (v ++ [numV (List.drop (a).toNat (List.take (i).toNat l))]) : Int)) (congrArg (Value.int .i64) (show ((v.length : Int) + 1) = (List.length (v ++ [numV (List.drop (a).toNat (List.take (i).toNat l))]) : Int) from by simp)) (k := ?_)
                refine WX.round (i + 1, i + 1, (v ++ [numV (List.drop (a).toNat (List.take (i).toNat l))])) (by show (l.length + 1 - (i + 1)).toNat < (l.length + 1 - i).toNat; omega) ⟨(by kernel_rfl), (by kernel_rfl), (by kernel_rfl), (by kernel_rfl), (by kernel_rfl), (by kernel_rfl), trivial⟩ ⟨K, hb15, hb55, (by omega), (by omega), (by omega), (by omega), (ptJ_step hj a0 a1 (by omega) (by omega) (by omega) (fun q_ => iff_t h33) (numR_pos.1 (by omega))), (by simp; omega)⟩
            have ph47 := ne_of_beq_false h47
            refine bsplit ((v.length : Int) == 2) (fun h57 => ?_) (fun h57 => ?_)
            · have ph57 := eq_of_beq h57
              refine WL.rw (t := 50) (v := .int .i64 2) (congrArg (Value.int .i64) (eq_of_beq h57)) (k := ?_)
              refine WL.op (d := 56) (.pointer (some ⟨b7, 2, none⟩)) (k := ?_)
              refine WL.store (v := .int .i64 (numR (List.drop a.toNat (List.take i.toNat l)))) (i := 2) (cs' := #[.int .i64 ((List.getD v 0 0 : Nat) : Int), .int .i64 ((List.getD v 1 0 : Nat) : Int), .int .i64 (numR (List.drop a.toNat (List.take i.toNat l))), .int .i64 ((List.getD v 3 0 : Nat) : Int), .int .i64 ((List.getD v 4 0 : Nat) : Int)]) hb16 (k := fun w58 hb59 k60 => ?_)
              replace hb15 := k60.heap hb15 n13
              replace K := K.trans' k60 (fun i hi e => absurd (e ▸ hi) (Nat.not_lt.2 z12))
              clear hb16
              refine WL.nil ?_
              refine WX.seqN ?_
              refine WC.seq ?_
              refine WC.seq ?_
              refine WC.region ?_
              refine WL.op (d := 57) (.int .i64 (v.length : Int)) (k := ?_)
              refine WL.rw (t := 57) (v := .int .i64 2) (congrArg (Value.int .i64) (eq_of_beq h57)) (k := ?_)
              refine WL.op (d := 58) (.pointer (some ⟨b7, 2, none⟩)) (k := ?_)
              refine WL.load (v := .int .i64 (numR (List.drop a.toNat (List.take i.toNat l)))) (ld1 (T := 2) (i := 2) hb59) (k := ?_)
              refine WL.op (d := 60) (.bool (decide ((numR (List.drop a.toNat (List.take i.toNat l))) < 0))) (k := ?_)
              refine WL.nil ?_
              refine WX.seqN ?_
              refine WC.cond (b := decide ((numR (List.drop a.toNat (List.take i.toNat l))) < 0)) (ht := fun h61 => ?_) (hf := fun h61 => ?_)
              · have ph61 := of_decide_eq_true h61
                refine WC.seq ?_
                refine WC.region ?_
                refine WL.op (d := 61) (.agg #[.int .i64 0, .int .i64 0, .int .i64 0, .int .i64 0, .int .i64 0]) (k := ?_)
                refine WL.store (v := .agg #[.int .i64 0, .int .i64 0, .int .i64 0, .int .i64 0, .int .i64 0]) (i := 0) (cs' := #[.int .i64 0, .int .i64 0, .int .i64 0, .int .i64 0, .int .i64 0]) hb15 (k := fun w62 hb63 k64 => ?_)
                replace hb59 := k64.heap hb59 (Ne.symm n13)
                replace K := K.trans' k64 (fun i hi e => absurd (e ▸ hi) (Nat.not_lt.2 z6))
                clear hb15
                refine WL.op (d := 3) (.bool false) (k := ?_)
                refine WL.nil ?_
                refine WX.seqN ?_
                refine WC.ret ?_
                refine WX.seqR ?_
                refine WX.blockR ?_
                refine WX.seqR ?_
                refine WX.seqR ?_
                refine WX.blockR ?_
                refine WX.seqR ?_
                refine WX.ret (rs := [.cell 2 29, .tmp 3]) [.agg #[.int .i64 0, .int .i64 0, .int .i64 0, .int .i64 0, .int .i64 0], .bool false] (.tuple #[.agg #[.int .i64 0, .int .i64 0, .int .i64 0, .int .i64 0, .int .i64 0], .bool false]) ⟨⟨_, (by kernel_rfl), ldN (T := 29) (i := 0) (m := 5) (l := [.int .i64 0, .int .i64 0, .int .i64 0, .int .i64 0, .int .i64 0]) hb63⟩, (by kernel_rfl), trivial⟩ (k := ?_)
                obtain ⟨e1_, e2_⟩ := task_no (s := l) (ptJ_no hj a0 a1 (by omega) (by omega) (.inr (.inr (fun k_ => absurd (numR_pos.2 k_) (by omega)))))
                exact ⟨by rw [e1_, e2_]; first | done | rfl, K⟩
              · have ph61 := of_decide_eq_false h61
                refine WC.skip ?_
                refine WX.seqN ?_
                refine WC.seq ?_
                refine WC.region ?_
                refine WL.op (d := 62) (.int .i64 (v.length : Int)) (k := ?_)
                refine WL.opE (d := 63) (.int .i64 (IntKind.i64.wrap ((v.length : Int) + 1))) (v := .int .i64 ((v.length : Int) + 1)) (congrArg (Value.int .i64) (IntWalk.i64_in _ (by omega))) (k := ?_)
                refine WL.op (d := 6) (.int .i64 ((v.length : Int) + 1)) (k := ?_)
                refine WL.nil ?_
                refine WX.seqN ?_
                refine WC.region ?_
                refine WL.op (d := 64) (.int .i64 i) (k := ?_)
                refine WL.opE (d := 65) (.int .i64 (IntKind.i64.wrap (i + 1))) (v := .int .i64 (i + 1)) (congrArg (Value.int .i64) (IntWalk.i64_in _ (by omega))) (k := ?_)
                refine WL.op (d := 5) (.int .i64 (i + 1)) (k := ?_)
                refine WL.nil ?_
                refine WX.blockN ?_
                refine WX.seqN ?_
                refine WC.region ?_
                refine WL.op (d := 14) (.int .i64 i) (k := ?_)
                refine WL.opE (d := 15) (.int .i64 (IntKind.i64.wrap (i + 1))) (v := .int .i64 (i + 1)) (congrArg (Value.int .i64) (IntWalk.i64_in _ (by omega))) (k := ?_)
                refine WL.op (d := 7) (.int .i64 (i + 1)) (k := ?_)
                refine WL.nil ?_
                have pn66 : numP (List.drop (a).toNat (List.take (i).toNat l)) := numR_pos.1 (by omega)
                have vl_ : v.length = 2 := by omega
                have hb65 := cells5 hb59 (gd_other (x := numV (List.drop (a).toNat (List.take (i).toNat l))) (m := 0) (by omega)) (gd_other (x := numV (List.drop (a).toNat (List.take (i).toNat l))) (m := 1) (by omega)) (gd_at vl_ pn66) (gd_other (x := numV (List.drop (a).toNat (List.take (i).toNat l))) (m := 3) (by omega)) (gd_other (x := numV (List.drop (a).toNat (List.take (i).toNat l))) (m := 4) (by omega))
                clear hb59
                refine WX.rw (t := 6) (v := .int .i64 (List.length (v ++ [numV (List.drop (a).toNat (List.take (i).toNat l))]) : Int)) (congrArg (Value.int .i64) (show ((v.length : Int) + 1) = (List.length (v ++ [numV (List.drop (a).toNat (List.take (i).toNat l))]) : Int) from by simp)) (k := ?_)
                refine WX.round (i + 1, i + 1, (v ++ [numV (List.drop (a).toNat (List.take (i).toNat l))])) (by show (l.length + 1 - (i + 1)).toNat < (l.length + 1 - i).toNat; omega) ⟨(by kernel_rfl), (by kernel_rfl), (by kernel_rfl), (by kernel_rfl), (by kernel_rfl), (by kernel_rfl), trivial⟩ ⟨K, hb15, hb65, (by omega), (by omega), (by omega), (by omega), (ptJ_step hj a0 a1 (by omega) (by omega) (by omega) (fun q_ => iff_t h33) (numR_pos.1 (by omega))), (by simp; omega)⟩
            have ph57 := ne_of_beq_false h57
            refine bsplit ((v.length : Int) == 3) (fun h67 => ?_) (fun h67 => ?_)
            · have ph67 := eq_of_beq h67
              refine WL.rw (t := 50) (v := .int .i64 3) (congrArg (Value.int .i64) (eq_of_beq h67)) (k := ?_)
              refine WL.op (d := 56) (.pointer (some ⟨b7, 3, none⟩)) (k := ?_)
              refine WL.store (v := .int .i64 (numR (List.drop a.toNat (List.take i.toNat l)))) (i := 3) (cs' := #[.int .i64 ((List.getD v 0 0 : Nat) : Int), .int .i64 ((List.getD v 1 0 : Nat) : Int), .int .i64 ((List.getD v 2 0 : Nat) : Int), .int .i64 (numR (List.drop a.toNat (List.take i.toNat l))), .int .i64 ((List.getD v 4 0 : Nat) : Int)]) hb16 (k := fun w68 hb69 k70 => ?_)
              replace hb15 := k70.heap hb15 n13
              replace K := K.trans' k70 (fun i hi e => absurd (e ▸ hi) (Nat.not_lt.2 z12))
              clear hb16
              refine WL.nil ?_
              refine WX.seqN ?_
              refine WC.seq ?_
              refine WC.seq ?_
              refine WC.region ?_
              refine WL.op (d := 57) (.int .i64 (v.length : Int)) (k := ?_)
              refine WL.rw (t := 57) (v := .int .i64 3) (congrArg (Value.int .i64) (eq_of_beq h67)) (k := ?_)
              refine WL.op (d := 58) (.pointer (some ⟨b7, 3, none⟩)) (k := ?_)
              refine WL.load (v := .int .i64 (numR (List.drop a.toNat (List.take i.toNat l)))) (ld1 (T := 2) (i := 3) hb69) (k := ?_)
              refine WL.op (d := 60) (.bool (decide ((numR (List.drop a.toNat (List.take i.toNat l))) < 0))) (k := ?_)
              refine WL.nil ?_
              refine WX.seqN ?_
              refine WC.cond (b := decide ((numR (List.drop a.toNat (List.take i.toNat l))) < 0)) (ht := fun h71 => ?_) (hf := fun h71 => ?_)
              · have ph71 := of_decide_eq_true h71
                refine WC.seq ?_
                refine WC.region ?_
                refine WL.op (d := 61) (.agg #[.int .i64 0, .int .i64 0, .int .i64 0, .int .i64 0, .int .i64 0]) (k := ?_)
                refine WL.store (v := .agg #[.int .i64 0, .int .i64 0, .int .i64 0, .int .i64 0, .int .i64 0]) (i := 0) (cs' := #[.int .i64 0, .int .i64 0, .int .i64 0, .int .i64 0, .int .i64 0]) hb15 (k := fun w72 hb73 k74 => ?_)
                replace hb69 := k74.heap hb69 (Ne.symm n13)
                replace K := K.trans' k74 (fun i hi e => absurd (e ▸ hi) (Nat.not_lt.2 z6))
                clear hb15
                refine WL.op (d := 3) (.bool false) (k := ?_)
                refine WL.nil ?_
                refine WX.seqN ?_
                refine WC.ret ?_
                refine WX.seqR ?_
                refine WX.blockR ?_
                refine WX.seqR ?_
                refine WX.seqR ?_
                refine WX.blockR ?_
                refine WX.seqR ?_
                refine WX.ret (rs := [.cell 2 29, .tmp 3]) [.agg #[.int .i64 0, .int .i64 0, .int .i64 0, .int .i64 0, .int .i64 0], .bool false] (.tuple #[.agg #[.int .i64 0, .int .i64 0, .int .i64 0, .int .i64 0, .int .i64 0], .bool false]) ⟨⟨_, (by kernel_rfl), ldN (T := 29) (i := 0) (m := 5) (l := [.int .i64 0, .int .i64 0, .int .i64 0, .int .i64 0, .int .i64 0]) hb73⟩, (by kernel_rfl), trivial⟩ (k := ?_)
                obtain ⟨e1_, e2_⟩ := task_no (s := l) (ptJ_no hj a0 a1 (by omega) (by omega) (.inr (.inr (fun k_ => absurd (numR_pos.2 k_) (by omega)))))
                exact ⟨by rw [e1_, e2_]; first | done | rfl, K⟩
              · have ph71 := of_decide_eq_false h71
                refine WC.skip ?_
                refine WX.seqN ?_
                refine WC.seq ?_
                refine WC.region ?_
                refine WL.op (d := 62) (.int .i64 (v.length : Int)) (k := ?_)
                refine WL.opE (d := 63) (.int .i64 (IntKind.i64.wrap ((v.length : Int) + 1))) (v := .int .i64 ((v.length : Int) + 1)) (congrArg (Value.int .i64) (IntWalk.i64_in _ (by omega))) (k := ?_)
                refine WL.op (d := 6) (.int .i64 ((v.length : Int) + 1)) (k := ?_)
                refine WL.nil ?_
                refine WX.seqN ?_
                refine WC.region ?_
                refine WL.op (d := 64) (.int .i64 i) (k := ?_)
                refine WL.opE (d := 65) (.int .i64 (IntKind.i64.wrap (i + 1))) (v := .int .i64 (i + 1)) (congrArg (Value.int .i64) (IntWalk.i64_in _ (by omega))) (k := ?_)
                refine WL.op (d := 5) (.int .i64 (i + 1)) (k := ?_)
                refine WL.nil ?_
                refine WX.blockN ?_
                refine WX.seqN ?_
                refine WC.region ?_
                refine WL.op (d := 14) (.int .i64 i) (k := ?_)
                refine WL.opE (d := 15) (.int .i64 (IntKind.i64.wrap (i + 1))) (v := .int .i64 (i + 1)) (congrArg (Value.int .i64) (IntWalk.i64_in _ (by omega))) (k := ?_)
                refine WL.op (d := 7) (.int .i64 (i + 1)) (k := ?_)
                refine WL.nil ?_
                have pn76 : numP (List.drop (a).toNat (List.take (i).toNat l)) := numR_pos.1 (by omega)
                have vl_ : v.length = 3 := by omega
                have hb75 := cells5 hb69 (gd_other (x := numV (List.drop (a).toNat (List.take (i).toNat l))) (m := 0) (by omega)) (gd_other (x := numV (List.drop (a).toNat (List.take (i).toNat l))) (m := 1) (by omega)) (gd_other (x := numV (List.drop (a).toNat (List.take (i).toNat l))) (m := 2) (by omega)) (gd_at vl_ pn76) (gd_other (x := numV (List.drop (a).toNat (List.take (i).toNat l))) (m := 4) (by omega))
                clear hb69
                refine WX.rw (t := 6) (v := .int .i64 (List.length (v ++ [numV (List.drop (a).toNat (List.take (i).toNat l))]) : Int)) (congrArg (Value.int .i64) (show ((v.length : Int) + 1) = (List.length (v ++ [numV (List.drop (a).toNat (List.take (i).toNat l))]) : Int) from by simp)) (k := ?_)
                refine WX.round (i + 1, i + 1, (v ++ [numV (List.drop (a).toNat (List.take (i).toNat l))])) (by show (l.length + 1 - (i + 1)).toNat < (l.length + 1 - i).toNat; omega) ⟨(by kernel_rfl), (by kernel_rfl), (by kernel_rfl), (by kernel_rfl), (by kernel_rfl), (by kernel_rfl), trivial⟩ ⟨K, hb15, hb75, (by omega), (by omega), (by omega), (by omega), (ptJ_step hj a0 a1 (by omega) (by omega) (by omega) (fun q_ => iff_t h33) (numR_pos.1 (by omega))), (by simp; omega)⟩
            have ph67 := ne_of_beq_false h67
            refine bsplit ((v.length : Int) == 4) (fun h77 => ?_) (fun h77 => ?_)
            · have ph77 := eq_of_beq h77
              refine WL.rw (t := 50) (v := .int .i64 4) (congrArg (Value.int .i64) (eq_of_beq h77)) (k := ?_)
              refine WL.op (d := 56) (.pointer (some ⟨b7, 4, none⟩)) (k := ?_)
              refine WL.store (v := .int .i64 (numR (List.drop a.toNat (List.take i.toNat l)))) (i := 4) (cs' := #[.int .i64 ((List.getD v 0 0 : Nat) : Int), .int .i64 ((List.getD v 1 0 : Nat) : Int), .int .i64 ((List.getD v 2 0 : Nat) : Int), .int .i64 ((List.getD v 3 0 : Nat) : Int), .int .i64 (numR (List.drop a.toNat (List.take i.toNat l)))]) hb16 (k := fun w78 hb79 k80 => ?_)
              replace hb15 := k80.heap hb15 n13
              replace K := K.trans' k80 (fun i hi e => absurd (e ▸ hi) (Nat.not_lt.2 z12))
              clear hb16
              refine WL.nil ?_
              refine WX.seqN ?_
              refine WC.seq ?_
              refine WC.seq ?_
              refine WC.region ?_
              refine WL.op (d := 57) (.int .i64 (v.length : Int)) (k := ?_)
              refine WL.rw (t := 57) (v := .int .i64 4) (congrArg (Value.int .i64) (eq_of_beq h77)) (k := ?_)
              refine WL.op (d := 58) (.pointer (some ⟨b7, 4, none⟩)) (k := ?_)
              refine WL.load (v := .int .i64 (numR (List.drop a.toNat (List.take i.toNat l)))) (ld1 (T := 2) (i := 4) hb79) (k := ?_)
              refine WL.op (d := 60) (.bool (decide ((numR (List.drop a.toNat (List.take i.toNat l))) < 0))) (k := ?_)
              refine WL.nil ?_
              refine WX.seqN ?_
              refine WC.cond (b := decide ((numR (List.drop a.toNat (List.take i.toNat l))) < 0)) (ht := fun h81 => ?_) (hf := fun h81 => ?_)
              · have ph81 := of_decide_eq_true h81
                refine WC.seq ?_
                refine WC.region ?_
                refine WL.op (d := 61) (.agg #[.int .i64 0, .int .i64 0, .int .i64 0, .int .i64 0, .int .i64 0]) (k := ?_)
                refine WL.store (v := .agg #[.int .i64 0, .int .i64 0, .int .i64 0, .int .i64 0, .int .i64 0]) (i := 0) (cs' := #[.int .i64 0, .int .i64 0, .int .i64 0, .int .i64 0, .int .i64 0]) hb15 (k := fun w82 hb83 k84 => ?_)
                replace hb79 := k84.heap hb79 (Ne.symm n13)
                replace K := K.trans' k84 (fun i hi e => absurd (e ▸ hi) (Nat.not_lt.2 z6))
                clear hb15
                refine WL.op (d := 3) (.bool false) (k := ?_)
                refine WL.nil ?_
                refine WX.seqN ?_
                refine WC.ret ?_
                refine WX.seqR ?_
                refine WX.blockR ?_
                refine WX.seqR ?_
                refine WX.seqR ?_
                refine WX.blockR ?_
                refine WX.seqR ?_
                refine WX.ret (rs := [.cell 2 29, .tmp 3]) [.agg #[.int .i64 0, .int .i64 0, .int .i64 0, .int .i64 0, .int .i64 0], .bool false] (.tuple #[.agg #[.int .i64 0, .int .i64 0, .int .i64 0, .int .i64 0, .int .i64 0], .bool false]) ⟨⟨_, (by kernel_rfl), ldN (T := 29) (i := 0) (m := 5) (l := [.int .i64 0, .int .i64 0, .int .i64 0, .int .i64 0, .int .i64 0]) hb83⟩, (by kernel_rfl), trivial⟩ (k := ?_)
                obtain ⟨e1_, e2_⟩ := task_no (s := l) (ptJ_no hj a0 a1 (by omega) (by omega) (.inr (.inr (fun k_ => absurd (numR_pos.2 k_) (by omega)))))
                exact ⟨by rw [e1_, e2_]; first | done | rfl, K⟩
              · have ph81 := of_decide_eq_false h81
                refine WC.skip ?_
                refine WX.seqN ?_
                refine WC.seq ?_
                refine WC.region ?_
                refine WL.op (d := 62) (.int .i64 (v.length : Int)) (k := ?_)
                refine WL.opE (d := 63) (.int .i64 (IntKind.i64.wrap ((v.length : Int) + 1))) (v := .int .i64 ((v.length : Int) + 1)) (congrArg (Value.int .i64) (IntWalk.i64_in _ (by omega))) (k := ?_)
                refine WL.op (d := 6) (.int .i64 ((v.length : Int) + 1)) (k := ?_)
                refine WL.nil ?_
                refine WX.seqN ?_
                refine WC.region ?_
                refine WL.op (d := 64) (.int .i64 i) (k := ?_)
                refine WL.opE (d := 65) (.int .i64 (IntKind.i64.wrap (i + 1))) (v := .int .i64 (i + 1)) (congrArg (Value.int .i64) (IntWalk.i64_in _ (by omega))) (k := ?_)
                refine WL.op (d := 5) (.int .i64 (i + 1)) (k := ?_)
                refine WL.nil ?_
                refine WX.blockN ?_
                refine WX.seqN ?_
                refine WC.region ?_
                refine WL.op (d := 14) (.int .i64 i) (k := ?_)
                refine WL.opE (d := 15) (.int .i64 (IntKind.i64.wrap (i + 1))) (v := .int .i64 (i + 1)) (congrArg (Value.int .i64) (IntWalk.i64_in _ (by omega))) (k := ?_)
                refine WL.op (d := 7) (.int .i64 (i + 1)) (k := ?_)
                refine WL.nil ?_
                have pn86 : numP (List.drop (a).toNat (List.take (i).toNat l)) := numR_pos.1 (by omega)
                have vl_ : v.length = 4 := by omega
                have hb85 := cells5 hb79 (gd_other (x := numV (List.drop (a).toNat (List.take (i).toNat l))) (m := 0) (by omega)) (gd_other (x := numV (List.drop (a).toNat (List.take (i).toNat l))) (m := 1) (by omega)) (gd_other (x := numV (List.drop (a).toNat (List.take (i).toNat l))) (m := 2) (by omega)) (gd_other (x := numV (List.drop (a).toNat (List.take (i).toNat l))) (m := 3) (by omega)) (gd_at vl_ pn86)
                clear hb79
                refine WX.rw (t := 6) (v := .int .i64 (List.length (v ++ [numV (List.drop (a).toNat (List.take (i).toNat l))]) : Int)) (congrArg (Value.int .i64) (show ((v.length : Int) + 1) = (List.length (v ++ [numV (List.drop (a).toNat (List.take (i).toNat l))]) : Int) from by simp)) (k := ?_)
                refine WX.round (i + 1, i + 1, (v ++ [numV (List.drop (a).toNat (List.take (i).toNat l))])) (by show (l.length + 1 - (i + 1)).toNat < (l.length + 1 - i).toNat; omega) ⟨(by kernel_rfl), (by kernel_rfl), (by kernel_rfl), (by kernel_rfl), (by kernel_rfl), (by kernel_rfl), trivial⟩ ⟨K, hb15, hb85, (by omega), (by omega), (by omega), (by omega), (ptJ_step hj a0 a1 (by omega) (by omega) (by omega) (fun q_ => iff_t h33) (numR_pos.1 (by omega))), (by simp; omega)⟩
            have ph77 := ne_of_beq_false h77
            exfalso; omega
      have ph20 := of_bne_false h20
      refine WL.rw (t := 26) (v := .bool false) (congrArg Value.bool h20) (k := ?_)
      refine WL.skip (d := 27) (k := ?_)
      refine WL.skip (d := 28) (k := ?_)
      refine WL.skip (d := 29) (k := ?_)
      refine WL.skip (d := 30) (k := ?_)
      refine WL.op (d := 31) (.bool false) (k := ?_)
      refine WL.nil ?_
      refine WX.seqN ?_
      refine WC.condF (k := ?_)
      refine WC.skip ?_
      refine WX.seqN ?_
      refine WC.seq ?_
      refine WC.seq ?_
      refine WC.region ?_
      refine WL.op (d := 32) (.int .i64 (v.length : Int)) (k := ?_)
      refine WL.op (d := 33) (.bool (decide ((v.length : Int) > 4))) (k := ?_)
      refine WL.op (d := 34) (.bool (decide ((v.length : Int) > 4))) (k := ?_)
      refine bsplit (decide ((v.length : Int) > 4)) (fun h87 => ?_) (fun h87 => ?_)
      · have ph87 := of_decide_eq_true h87
        refine WL.rw (t := 34) (v := .bool true) (congrArg Value.bool h87) (k := ?_)
        refine WL.skip (d := 35) (k := ?_)
        refine WL.skip (d := 36) (k := ?_)
        refine WL.skip (d := 37) (k := ?_)
        refine WL.skip (d := 38) (k := ?_)
        refine WL.skip (d := 39) (k := ?_)
        refine WL.skip (d := 40) (k := ?_)
        refine WL.skip (d := 41) (k := ?_)
        refine WL.skip (d := 42) (k := ?_)
        refine WL.skip (d := 43) (k := ?_)
        refine WL.skip (d := 44) (k := ?_)
        refine WL.skip (d := 45) (k := ?_)
        refine WL.skip (d := 46) (k := ?_)
        refine WL.skip (d := 47) (k := ?_)
        refine WL.op (d := 48) (.bool true) (k := ?_)
        refine WL.nil ?_
        refine WX.seqN ?_
        refine WC.condT (k := ?_)
        refine WC.seq ?_
        refine WC.region ?_
        refine WL.op (d := 49) (.agg #[.int .i64 0, .int .i64 0, .int .i64 0, .int .i64 0, .int .i64 0]) (k := ?_)
        refine WL.store (v := .agg #[.int .i64 0, .int .i64 0, .int .i64 0, .int .i64 0, .int .i64 0]) (i := 0) (cs' := #[.int .i64 0, .int .i64 0, .int .i64 0, .int .i64 0, .int .i64 0]) hb15 (k := fun w88 hb89 k90 => ?_)
        replace hb16 := k90.heap hb16 (Ne.symm n13)
        replace K := K.trans' k90 (fun i hi e => absurd (e ▸ hi) (Nat.not_lt.2 z6))
        clear hb15
        refine WL.op (d := 3) (.bool false) (k := ?_)
        refine WL.nil ?_
        refine WX.seqN ?_
        refine WC.ret ?_
        refine WX.seqR ?_
        refine WX.blockR ?_
        refine WX.seqR ?_
        refine WX.seqR ?_
        refine WX.blockR ?_
        refine WX.seqR ?_
        refine WX.ret (rs := [.cell 2 29, .tmp 3]) [.agg #[.int .i64 0, .int .i64 0, .int .i64 0, .int .i64 0, .int .i64 0], .bool false] (.tuple #[.agg #[.int .i64 0, .int .i64 0, .int .i64 0, .int .i64 0, .int .i64 0], .bool false]) ⟨⟨_, (by kernel_rfl), ldN (T := 29) (i := 0) (m := 5) (l := [.int .i64 0, .int .i64 0, .int .i64 0, .int .i64 0, .int .i64 0]) hb89⟩, (by kernel_rfl), trivial⟩ (k := ?_)
        obtain ⟨e1_, e2_⟩ := task_no (s := l) (ptJ_no hj a0 a1 (by omega) (by omega) (by omega))
        exact ⟨by rw [e1_, e2_]; first | done | rfl, K⟩
      have ph87 := of_decide_eq_false h87
      refine WL.rw (t := 34) (v := .bool false) (congrArg Value.bool h87) (k := ?_)
      refine WL.op (d := 35) (.int .i64 i) (k := ?_)
      refine WL.op (d := 36) (.string ⟨(l).toArray⟩) (k := ?_)
      refine WL.op (d := 37) (.int .i64 (l.length : Int)) (k := ?_)
      refine WL.op (d := 38) (.bool (decide (i < (l.length : Int)))) (k := ?_)
      refine WL.op (d := 39) (.bool (decide (i < (l.length : Int)))) (k := ?_)
      refine WL.rw (t := 39) (v := .bool true) (congrArg Value.bool h18) (k := ?_)
      refine WL.op (d := 40) (.int .i64 (v.length : Int)) (k := ?_)
      refine WL.op (d := 41) (.bool ((v.length : Int) == 0)) (k := ?_)
      refine WL.op (d := 42) (.string ⟨(l).toArray⟩) (k := ?_)
      refine WL.op (d := 43) (.int .i64 i) (k := ?_)
      refine WL.strAt (T := 9) (l := l) (i := i) (kk := .i64) (d := 44) (by omega) (by first | omega | (simp; omega)) (by kernel_rfl) (by kernel_rfl) (by kernel_rfl) (by kernel_rfl) (by kernel_rfl) ?_
      have ub91 := u8_lt (List.getD l (i).toNat 0)
      refine WL.op (d := 45) (.bool (((List.getD l (i).toNat 0).toNat : Int) == 58)) (k := ?_)
      refine WL.op (d := 46) (.bool (!(((v.length : Int) == 0) == (((List.getD l (i).toNat 0).toNat : Int) == 58)))) (k := ?_)
      refine WL.op (d := 47) (.bool (!(((v.length : Int) == 0) == (((List.getD l (i).toNat 0).toNat : Int) == 58)))) (k := ?_)
      refine WL.op (d := 48) (.bool (!(((v.length : Int) == 0) == (((List.getD l (i).toNat 0).toNat : Int) == 58)))) (k := ?_)
      refine WL.nil ?_
      refine WX.seqN ?_
      refine WC.cond (b := !(((v.length : Int) == 0) == (((List.getD l (i).toNat 0).toNat : Int) == 58))) (ht := fun h92 => ?_) (hf := fun h92 => ?_)
      · have h93 : (((v.length : Int) == 0) == (((List.getD l (i).toNat 0).toNat : Int) == 58)) = false := Bool.not_inj (y := false) h92
        have ph93 := ne_of_beq_false h93
        refine WC.seq ?_
        refine WC.region ?_
        refine WL.op (d := 49) (.agg #[.int .i64 0, .int .i64 0, .int .i64 0, .int .i64 0, .int .i64 0]) (k := ?_)
        refine WL.store (v := .agg #[.int .i64 0, .int .i64 0, .int .i64 0, .int .i64 0, .int .i64 0]) (i := 0) (cs' := #[.int .i64 0, .int .i64 0, .int .i64 0, .int .i64 0, .int .i64 0]) hb15 (k := fun w94 hb95 k96 => ?_)
        replace hb16 := k96.heap hb16 (Ne.symm n13)
        replace K := K.trans' k96 (fun i hi e => absurd (e ▸ hi) (Nat.not_lt.2 z6))
        clear hb15
        refine WL.op (d := 3) (.bool false) (k := ?_)
        refine WL.nil ?_
        refine WX.seqN ?_
        refine WC.ret ?_
        refine WX.seqR ?_
        refine WX.blockR ?_
        refine WX.seqR ?_
        refine WX.seqR ?_
        refine WX.blockR ?_
        refine WX.seqR ?_
        refine WX.ret (rs := [.cell 2 29, .tmp 3]) [.agg #[.int .i64 0, .int .i64 0, .int .i64 0, .int .i64 0, .int .i64 0], .bool false] (.tuple #[.agg #[.int .i64 0, .int .i64 0, .int .i64 0, .int .i64 0, .int .i64 0], .bool false]) ⟨⟨_, (by kernel_rfl), ldN (T := 29) (i := 0) (m := 5) (l := [.int .i64 0, .int .i64 0, .int .i64 0, .int .i64 0, .int .i64 0]) hb95⟩, (by kernel_rfl), trivial⟩ (k := ?_)
        obtain ⟨e1_, e2_⟩ := task_no (s := l) (ptJ_no hj a0 a1 (by omega) (by omega) (.inr (.inl ⟨by omega, iff_f h93⟩)))
        exact ⟨by rw [e1_, e2_]; first | done | rfl, K⟩
      · have h97 : (((v.length : Int) == 0) == (((List.getD l (i).toNat 0).toNat : Int) == 58)) = true := Bool.not_inj (y := true) h92
        have ph97 := eq_of_beq h97
        refine WC.skip ?_
        refine WX.seqN ?_
        refine WC.seq ?_
        refine WC.region ?_
        refine WL.op (d := 50) (.int .i64 (v.length : Int)) (k := ?_)
        refine WL.op (d := 51) (.string ⟨(l).toArray⟩) (k := ?_)
        refine WL.op (d := 52) (.int .i64 a) (k := ?_)
        refine WL.op (d := 53) (.int .i64 i) (k := ?_)
        refine WL.cut (d := 54) (vx := .string ⟨(l).toArray⟩) (lo' := (some (.int .i64 a))) (hi' := (some (.int .i64 i))) (mx' := none) (v := .string ⟨(List.drop a.toNat (List.take i.toNat l)).toArray⟩) (run_cut (P := Tryz.prog) (w := w14) (lo := (some (.int .i64 a))) (hi := (some (.int .i64 i))) (T := 9) (a := a.toNat) (b := i.toNat) (l := l) (by kernel_rfl) (.inr ⟨_, _, rfl, by omega⟩) (.inr ⟨_, _, rfl, by omega⟩) (by first | omega | (simp; omega)) (by first | omega | (simp; omega))) (k := ?_)
        refine WL.callG (d := 55) (f := 31) (args := #[.string ⟨(List.drop a.toNat (List.take i.toNat l)).toArray⟩]) (u25number_c (l := (List.drop a.toNat (List.take i.toNat l))) (by first | omega | (simp; omega)) w14) (k := fun e_ w99 h_ => ⟨.int .i64 (numR (List.drop a.toNat (List.take i.toNat l))), h_.1, ?_⟩)
        have k100 := h_.2; clear h_
        replace hb15 := k100.heap hb15 id
        replace hb16 := k100.heap hb16 id
        replace K := K.trans (k100.any _)
        have nr98 := numR_rng (List.drop a.toNat (List.take i.toNat l))
        refine bsplit ((v.length : Int) == 0) (fun h101 => ?_) (fun h101 => ?_)
        · have ph101 := eq_of_beq h101
          refine WL.rw (t := 50) (v := .int .i64 0) (congrArg (Value.int .i64) (eq_of_beq h101)) (k := ?_)
          refine WL.op (d := 56) (.pointer (some ⟨b7, 0, none⟩)) (k := ?_)
          refine WL.store (v := .int .i64 (numR (List.drop a.toNat (List.take i.toNat l)))) (i := 0) (cs' := #[.int .i64 (numR (List.drop a.toNat (List.take i.toNat l))), .int .i64 ((List.getD v 1 0 : Nat) : Int), .int .i64 ((List.getD v 2 0 : Nat) : Int), .int .i64 ((List.getD v 3 0 : Nat) : Int), .int .i64 ((List.getD v 4 0 : Nat) : Int)]) hb16 (k := fun w102 hb103 k104 => ?_)
          replace hb15 := k104.heap hb15 n13
          replace K := K.trans' k104 (fun i hi e => absurd (e ▸ hi) (Nat.not_lt.2 z12))
          clear hb16
          refine WL.nil ?_
          refine WX.seqN ?_
          refine WC.seq ?_
          refine WC.seq ?_
          refine WC.region ?_
          refine WL.op (d := 57) (.int .i64 (v.length : Int)) (k := ?_)
          refine WL.rw (t := 57) (v := .int .i64 0) (congrArg (Value.int .i64) (eq_of_beq h101)) (k := ?_)
          refine WL.op (d := 58) (.pointer (some ⟨b7, 0, none⟩)) (k := ?_)
          refine WL.load (v := .int .i64 (numR (List.drop a.toNat (List.take i.toNat l)))) (ld1 (T := 2) (i := 0) hb103) (k := ?_)
          refine WL.op (d := 60) (.bool (decide ((numR (List.drop a.toNat (List.take i.toNat l))) < 0))) (k := ?_)
          refine WL.nil ?_
          refine WX.seqN ?_
          refine WC.cond (b := decide ((numR (List.drop a.toNat (List.take i.toNat l))) < 0)) (ht := fun h105 => ?_) (hf := fun h105 => ?_)
          · have ph105 := of_decide_eq_true h105
            refine WC.seq ?_
            refine WC.region ?_
            refine WL.op (d := 61) (.agg #[.int .i64 0, .int .i64 0, .int .i64 0, .int .i64 0, .int .i64 0]) (k := ?_)
            refine WL.store (v := .agg #[.int .i64 0, .int .i64 0, .int .i64 0, .int .i64 0, .int .i64 0]) (i := 0) (cs' := #[.int .i64 0, .int .i64 0, .int .i64 0, .int .i64 0, .int .i64 0]) hb15 (k := fun w106 hb107 k108 => ?_)
            replace hb103 := k108.heap hb103 (Ne.symm n13)
            replace K := K.trans' k108 (fun i hi e => absurd (e ▸ hi) (Nat.not_lt.2 z6))
            clear hb15
            refine WL.op (d := 3) (.bool false) (k := ?_)
            refine WL.nil ?_
            refine WX.seqN ?_
            refine WC.ret ?_
            refine WX.seqR ?_
            refine WX.blockR ?_
            refine WX.seqR ?_
            refine WX.seqR ?_
            refine WX.blockR ?_
            refine WX.seqR ?_
            refine WX.ret (rs := [.cell 2 29, .tmp 3]) [.agg #[.int .i64 0, .int .i64 0, .int .i64 0, .int .i64 0, .int .i64 0], .bool false] (.tuple #[.agg #[.int .i64 0, .int .i64 0, .int .i64 0, .int .i64 0, .int .i64 0], .bool false]) ⟨⟨_, (by kernel_rfl), ldN (T := 29) (i := 0) (m := 5) (l := [.int .i64 0, .int .i64 0, .int .i64 0, .int .i64 0, .int .i64 0]) hb107⟩, (by kernel_rfl), trivial⟩ (k := ?_)
            obtain ⟨e1_, e2_⟩ := task_no (s := l) (ptJ_no hj a0 a1 (by omega) (by omega) (.inr (.inr (fun k_ => absurd (numR_pos.2 k_) (by omega)))))
            exact ⟨by rw [e1_, e2_]; first | done | rfl, K⟩
          · have ph105 := of_decide_eq_false h105
            refine WC.skip ?_
            refine WX.seqN ?_
            refine WC.seq ?_
            refine WC.region ?_
            refine WL.op (d := 62) (.int .i64 (v.length : Int)) (k := ?_)
            refine WL.opE (d := 63) (.int .i64 (IntKind.i64.wrap ((v.length : Int) + 1))) (v := .int .i64 ((v.length : Int) + 1)) (congrArg (Value.int .i64) (IntWalk.i64_in _ (by omega))) (k := ?_)
            refine WL.op (d := 6) (.int .i64 ((v.length : Int) + 1)) (k := ?_)
            refine WL.nil ?_
            refine WX.seqN ?_
            refine WC.region ?_
            refine WL.op (d := 64) (.int .i64 i) (k := ?_)
            refine WL.opE (d := 65) (.int .i64 (IntKind.i64.wrap (i + 1))) (v := .int .i64 (i + 1)) (congrArg (Value.int .i64) (IntWalk.i64_in _ (by omega))) (k := ?_)
            refine WL.op (d := 5) (.int .i64 (i + 1)) (k := ?_)
            refine WL.nil ?_
            refine WX.blockN ?_
            refine WX.seqN ?_
            refine WC.region ?_
            refine WL.op (d := 14) (.int .i64 i) (k := ?_)
            refine WL.opE (d := 15) (.int .i64 (IntKind.i64.wrap (i + 1))) (v := .int .i64 (i + 1)) (congrArg (Value.int .i64) (IntWalk.i64_in _ (by omega))) (k := ?_)
            refine WL.op (d := 7) (.int .i64 (i + 1)) (k := ?_)
            refine WL.nil ?_
            have pn110 : numP (List.drop (a).toNat (List.take (i).toNat l)) := numR_pos.1 (by omega)
            have vl_ : v.length = 0 := by omega
            have hb109 := cells5 hb103 (gd_at vl_ pn110) (gd_other (x := numV (List.drop (a).toNat (List.take (i).toNat l))) (m := 1) (by omega)) (gd_other (x := numV (List.drop (a).toNat (List.take (i).toNat l))) (m := 2) (by omega)) (gd_other (x := numV (List.drop (a).toNat (List.take (i).toNat l))) (m := 3) (by omega)) (gd_other (x := numV (List.drop (a).toNat (List.take (i).toNat l))) (m := 4) (by omega))
            clear hb103
            refine WX.rw (t := 6) (v := .int .i64 (List.length (v ++ [numV (List.drop (a).toNat (List.take (i).toNat l))]) : Int)) (congrArg (Value.int .i64) (show ((v.length : Int) + 1) = (List.length (v ++ [numV (List.drop (a).toNat (List.take (i).toNat l))]) : Int) from by simp)) (k := ?_)
            refine WX.round (i + 1, i + 1, (v ++ [numV (List.drop (a).toNat (List.take (i).toNat l))])) (by show (l.length + 1 - (i + 1)).toNat < (l.length + 1 - i).toNat; omega) ⟨(by kernel_rfl), (by kernel_rfl), (by kernel_rfl), (by kernel_rfl), (by kernel_rfl), (by kernel_rfl), trivial⟩ ⟨K, hb15, hb109, (by omega), (by omega), (by omega), (by omega), (ptJ_step hj a0 a1 (by omega) (by omega) (by omega) (fun q_ => iff_t h97) (numR_pos.1 (by omega))), (by simp; omega)⟩
        have ph101 := ne_of_beq_false h101
        refine bsplit ((v.length : Int) == 1) (fun h111 => ?_) (fun h111 => ?_)
        · have ph111 := eq_of_beq h111
          refine WL.rw (t := 50) (v := .int .i64 1) (congrArg (Value.int .i64) (eq_of_beq h111)) (k := ?_)
          refine WL.op (d := 56) (.pointer (some ⟨b7, 1, none⟩)) (k := ?_)
          refine WL.store (v := .int .i64 (numR (List.drop a.toNat (List.take i.toNat l)))) (i := 1) (cs' := #[.int .i64 ((List.getD v 0 0 : Nat) : Int), .int .i64 (numR (List.drop a.toNat (List.take i.toNat l))), .int .i64 ((List.getD v 2 0 : Nat) : Int), .int .i64 ((List.getD v 3 0 : Nat) : Int), .int .i64 ((List.getD v 4 0 : Nat) : Int)]) hb16 (k := fun w112 hb113 k114 => ?_)
          replace hb15 := k114.heap hb15 n13
          replace K := K.trans' k114 (fun i hi e => absurd (e ▸ hi) (Nat.not_lt.2 z12))
          clear hb16
          refine WL.nil ?_
          refine WX.seqN ?_
          refine WC.seq ?_
          refine WC.seq ?_
          refine WC.region ?_
          refine WL.op (d := 57) (.int .i64 (v.length : Int)) (k := ?_)
          refine WL.rw (t := 57) (v := .int .i64 1) (congrArg (Value.int .i64) (eq_of_beq h111)) (k := ?_)
          refine WL.op (d := 58) (.pointer (some ⟨b7, 1, none⟩)) (k := ?_)
          refine WL.load (v := .int .i64 (numR (List.drop a.toNat (List.take i.toNat l)))) (ld1 (T := 2) (i := 1) hb113) (k := ?_)
          refine WL.op (d := 60) (.bool (decide ((numR (List.drop a.toNat (List.take i.toNat l))) < 0))) (k := ?_)
          refine WL.nil ?_
          refine WX.seqN ?_
          refine WC.cond (b := decide ((numR (List.drop a.toNat (List.take i.toNat l))) < 0)) (ht := fun h115 => ?_) (hf := fun h115 => ?_)
          · have ph115 := of_decide_eq_true h115
            refine WC.seq ?_
            refine WC.region ?_
            refine WL.op (d := 61) (.agg #[.int .i64 0, .int .i64 0, .int .i64 0, .int .i64 0, .int .i64 0]) (k := ?_)
            refine WL.store (v := .agg #[.int .i64 0, .int .i64 0, .int .i64 0, .int .i64 0, .int .i64 0]) (i := 0) (cs' := #[.int .i64 0, .int .i64 0, .int .i64 0, .int .i64 0, .int .i64 0]) hb15 (k := fun w116 hb117 k118 => ?_)
            replace hb113 := k118.heap hb113 (Ne.symm n13)
            replace K := K.trans' k118 (fun i hi e => absurd (e ▸ hi) (Nat.not_lt.2 z6))
            clear hb15
            refine WL.op (d := 3) (.bool false) (k := ?_)
            refine WL.nil ?_
            refine WX.seqN ?_
            refine WC.ret ?_
            refine WX.seqR ?_
            refine WX.blockR ?_
            refine WX.seqR ?_
            refine WX.seqR ?_
            refine WX.blockR ?_
            refine WX.seqR ?_
            refine WX.ret (rs := [.cell 2 29, .tmp 3]) [.agg #[.int .i64 0, .int .i64 0, .int .i64 0, .int .i64 0, .int .i64 0], .bool false] (.tuple #[.agg #[.int .i64 0, .int .i64 0, .int .i64 0, .int .i64 0, .int .i64 0], .bool false]) ⟨⟨_, (by kernel_rfl), ldN (T := 29) (i := 0) (m := 5) (l := [.int .i64 0, .int .i64 0, .int .i64 0, .int .i64 0, .int .i64 0]) hb117⟩, (by kernel_rfl), trivial⟩ (k := ?_)
            obtain ⟨e1_, e2_⟩ := task_no (s := l) (ptJ_no hj a0 a1 (by omega) (by omega) (.inr (.inr (fun k_ => absurd (numR_pos.2 k_) (by omega)))))
            exact ⟨by rw [e1_, e2_]; first | done | rfl, K⟩
          · have ph115 := of_decide_eq_false h115
            refine WC.skip ?_
            refine WX.seqN ?_
            refine WC.seq ?_
            refine WC.region ?_
            refine WL.op (d := 62) (.int .i64 (v.length : Int)) (k := ?_)
            refine WL.opE (d := 63) (.int .i64 (IntKind.i64.wrap ((v.length : Int) + 1))) (v := .int .i64 ((v.length : Int) + 1)) (congrArg (Value.int .i64) (IntWalk.i64_in _ (by omega))) (k := ?_)
            refine WL.op (d := 6) (.int .i64 ((v.length : Int) + 1)) (k := ?_)
            refine WL.nil ?_
            refine WX.seqN ?_
            refine WC.region ?_
            refine WL.op (d := 64) (.int .i64 i) (k := ?_)
            refine WL.opE (d := 65) (.int .i64 (IntKind.i64.wrap (i + 1))) (v := .int .i64 (i + 1)) (congrArg (Value.int .i64) (IntWalk.i64_in _ (by omega))) (k := ?_)
            refine WL.op (d := 5) (.int .i64 (i + 1)) (k := ?_)
            refine WL.nil ?_
            refine WX.blockN ?_
            refine WX.seqN ?_
            refine WC.region ?_
            refine WL.op (d := 14) (.int .i64 i) (k := ?_)
            refine WL.opE (d := 15) (.int .i64 (IntKind.i64.wrap (i + 1))) (v := .int .i64 (i + 1)) (congrArg (Value.int .i64) (IntWalk.i64_in _ (by omega))) (k := ?_)
            refine WL.op (d := 7) (.int .i64 (i + 1)) (k := ?_)
            refine WL.nil ?_
            have pn120 : numP (List.drop (a).toNat (List.take (i).toNat l)) := numR_pos.1 (by omega)
            have vl_ : v.length = 1 := by omega
            have hb119 := cells5 hb113 (gd_other (x := numV (List.drop (a).toNat (List.take (i).toNat l))) (m := 0) (by omega)) (gd_at vl_ pn120) (gd_other (x := numV (List.drop (a).toNat (List.take (i).toNat l))) (m := 2) (by omega)) (gd_other (x := numV (List.drop (a).toNat (List.take (i).toNat l))) (m := 3) (by omega)) (gd_other (x := numV (List.drop (a).toNat (List.take (i).toNat l))) (m := 4) (by omega))
            clear hb113
            refine WX.rw (t := 6) (v := .int .i64 (List.length (v ++ [numV (List.drop (a).toNat (List.take (i).toNat l))]) : Int)) (congrArg (Value.int .i64) (show ((v.length : Int) + 1) = (List.length (v ++ [numV (List.drop (a).toNat (List.take (i).toNat l))]) : Int) from by simp)) (k := ?_)
            refine WX.round (i + 1, i + 1, (v ++ [numV (List.drop (a).toNat (List.take (i).toNat l))])) (by show (l.length + 1 - (i + 1)).toNat < (l.length + 1 - i).toNat; omega) ⟨(by kernel_rfl), (by kernel_rfl), (by kernel_rfl), (by kernel_rfl), (by kernel_rfl), (by kernel_rfl), trivial⟩ ⟨K, hb15, hb119, (by omega), (by omega), (by omega), (by omega), (ptJ_step hj a0 a1 (by omega) (by omega) (by omega) (fun q_ => iff_t h97) (numR_pos.1 (by omega))), (by simp; omega)⟩
        have ph111 := ne_of_beq_false h111
        refine bsplit ((v.length : Int) == 2) (fun h121 => ?_) (fun h121 => ?_)
        · have ph121 := eq_of_beq h121
          refine WL.rw (t := 50) (v := .int .i64 2) (congrArg (Value.int .i64) (eq_of_beq h121)) (k := ?_)
          refine WL.op (d := 56) (.pointer (some ⟨b7, 2, none⟩)) (k := ?_)
          refine WL.store (v := .int .i64 (numR (List.drop a.toNat (List.take i.toNat l)))) (i := 2) (cs' := #[.int .i64 ((List.getD v 0 0 : Nat) : Int), .int .i64 ((List.getD v 1 0 : Nat) : Int), .int .i64 (numR (List.drop a.toNat (List.take i.toNat l))), .int .i64 ((List.getD v 3 0 : Nat) : Int), .int .i64 ((List.getD v 4 0 : Nat) : Int)]) hb16 (k := fun w122 hb123 k124 => ?_)
          replace hb15 := k124.heap hb15 n13
          replace K := K.trans' k124 (fun i hi e => absurd (e ▸ hi) (Nat.not_lt.2 z12))
          clear hb16
          refine WL.nil ?_
          refine WX.seqN ?_
          refine WC.seq ?_
          refine WC.seq ?_
          refine WC.region ?_
          refine WL.op (d := 57) (.int .i64 (v.length : Int)) (k := ?_)
          refine WL.rw (t := 57) (v := .int .i64 2) (congrArg (Value.int .i64) (eq_of_beq h121)) (k := ?_)
          refine WL.op (d := 58) (.pointer (some ⟨b7, 2, none⟩)) (k := ?_)
          refine WL.load (v := .int .i64 (numR (List.drop a.toNat (List.take i.toNat l)))) (ld1 (T := 2) (i := 2) hb123) (k := ?_)
          refine WL.op (d := 60) (.bool (decide ((numR (List.drop a.toNat (List.take i.toNat l))) < 0))) (k := ?_)
          refine WL.nil ?_
          refine WX.seqN ?_
          refine WC.cond (b := decide ((numR (List.drop a.toNat (List.take i.toNat l))) < 0)) (ht := fun h125 => ?_) (hf := fun h125 => ?_)
          · have ph125 := of_decide_eq_true h125
            refine WC.seq ?_
            refine WC.region ?_
            refine WL.op (d := 61) (.agg #[.int .i64 0, .int .i64 0, .int .i64 0, .int .i64 0, .int .i64 0]) (k := ?_)
            refine WL.store (v := .agg #[.int .i64 0, .int .i64 0, .int .i64 0, .int .i64 0, .int .i64 0]) (i := 0) (cs' := #[.int .i64 0, .int .i64 0, .int .i64 0, .int .i64 0, .int .i64 0]) hb15 (k := fun w126 hb127 k128 => ?_)
            replace hb123 := k128.heap hb123 (Ne.symm n13)
            replace K := K.trans' k128 (fun i hi e => absurd (e ▸ hi) (Nat.not_lt.2 z6))
            clear hb15
            refine WL.op (d := 3) (.bool false) (k := ?_)
            refine WL.nil ?_
            refine WX.seqN ?_
            refine WC.ret ?_
            refine WX.seqR ?_
            refine WX.blockR ?_
            refine WX.seqR ?_
            refine WX.seqR ?_
            refine WX.blockR ?_
            refine WX.seqR ?_
            refine WX.ret (rs := [.cell 2 29, .tmp 3]) [.agg #[.int .i64 0, .int .i64 0, .int .i64 0, .int .i64 0, .int .i64 0], .bool false] (.tuple #[.agg #[.int .i64 0, .int .i64 0, .int .i64 0, .int .i64 0, .int .i64 0], .bool false]) ⟨⟨_, (by kernel_rfl), ldN (T := 29) (i := 0) (m := 5) (l := [.int .i64 0, .int .i64 0, .int .i64 0, .int .i64 0, .int .i64 0]) hb127⟩, (by kernel_rfl), trivial⟩ (k := ?_)
            obtain ⟨e1_, e2_⟩ := task_no (s := l) (ptJ_no hj a0 a1 (by omega) (by omega) (.inr (.inr (fun k_ => absurd (numR_pos.2 k_) (by omega)))))
            exact ⟨by rw [e1_, e2_]; first | done | rfl, K⟩
          · have ph125 := of_decide_eq_false h125
            refine WC.skip ?_
            refine WX.seqN ?_
            refine WC.seq ?_
            refine WC.region ?_
            refine WL.op (d := 62) (.int .i64 (v.length : Int)) (k := ?_)
            refine WL.opE (d := 63) (.int .i64 (IntKind.i64.wrap ((v.length : Int) + 1))) (v := .int .i64 ((v.length : Int) + 1)) (congrArg (Value.int .i64) (IntWalk.i64_in _ (by omega))) (k := ?_)
            refine WL.op (d := 6) (.int .i64 ((v.length : Int) + 1)) (k := ?_)
            refine WL.nil ?_
            refine WX.seqN ?_
            refine WC.region ?_
            refine WL.op (d := 64) (.int .i64 i) (k := ?_)
            refine WL.opE (d := 65) (.int .i64 (IntKind.i64.wrap (i + 1))) (v := .int .i64 (i + 1)) (congrArg (Value.int .i64) (IntWalk.i64_in _ (by omega))) (k := ?_)
            refine WL.op (d := 5) (.int .i64 (i + 1)) (k := ?_)
            refine WL.nil ?_
            refine WX.blockN ?_
            refine WX.seqN ?_
            refine WC.region ?_
            refine WL.op (d := 14) (.int .i64 i) (k := ?_)
            refine WL.opE (d := 15) (.int .i64 (IntKind.i64.wrap (i + 1))) (v := .int .i64 (i + 1)) (congrArg (Value.int .i64) (IntWalk.i64_in _ (by omega))) (k := ?_)
            refine WL.op (d := 7) (.int .i64 (i + 1)) (k := ?_)
            refine WL.nil ?_
            have pn130 : numP (List.drop (a).toNat (List.take (i).toNat l)) := numR_pos.1 (by omega)
            have vl_ : v.length = 2 := by omega
            have hb129 := cells5 hb123 (gd_other (x := numV (List.drop (a).toNat (List.take (i).toNat l))) (m := 0) (by omega)) (gd_other (x := numV (List.drop (a).toNat (List.take (i).toNat l))) (m := 1) (by omega)) (gd_at vl_ pn130) (gd_other (x := numV (List.drop (a).toNat (List.take (i).toNat l))) (m := 3) (by omega)) (gd_other (x := numV (List.drop (a).toNat (List.take (i).toNat l))) (m := 4) (by omega))
            clear hb123
            refine WX.rw (t := 6) (v := .int .i64 (List.length (v ++ [numV (List.drop (a).toNat (List.take (i).toNat l))]) : Int)) (congrArg (Value.int .i64) (show ((v.length : Int) + 1) = (List.length (v ++ [numV (List.drop (a).toNat (List.take (i).toNat l))]) : Int) from by simp)) (k := ?_)
            refine WX.round (i + 1, i + 1, (v ++ [numV (List.drop (a).toNat (List.take (i).toNat l))])) (by show (l.length + 1 - (i + 1)).toNat < (l.length + 1 - i).toNat; omega) ⟨(by kernel_rfl), (by kernel_rfl), (by kernel_rfl), (by kernel_rfl), (by kernel_rfl), (by kernel_rfl), trivial⟩ ⟨K, hb15, hb129, (by omega), (by omega), (by omega), (by omega), (ptJ_step hj a0 a1 (by omega) (by omega) (by omega) (fun q_ => iff_t h97) (numR_pos.1 (by omega))), (by simp; omega)⟩
        have ph121 := ne_of_beq_false h121
        refine bsplit ((v.length : Int) == 3) (fun h131 => ?_) (fun h131 => ?_)
        · have ph131 := eq_of_beq h131
          refine WL.rw (t := 50) (v := .int .i64 3) (congrArg (Value.int .i64) (eq_of_beq h131)) (k := ?_)
          refine WL.op (d := 56) (.pointer (some ⟨b7, 3, none⟩)) (k := ?_)
          refine WL.store (v := .int .i64 (numR (List.drop a.toNat (List.take i.toNat l)))) (i := 3) (cs' := #[.int .i64 ((List.getD v 0 0 : Nat) : Int), .int .i64 ((List.getD v 1 0 : Nat) : Int), .int .i64 ((List.getD v 2 0 : Nat) : Int), .int .i64 (numR (List.drop a.toNat (List.take i.toNat l))), .int .i64 ((List.getD v 4 0 : Nat) : Int)]) hb16 (k := fun w132 hb133 k134 => ?_)
          replace hb15 := k134.heap hb15 n13
          replace K := K.trans' k134 (fun i hi e => absurd (e ▸ hi) (Nat.not_lt.2 z12))
          clear hb16
          refine WL.nil ?_
          refine WX.seqN ?_
          refine WC.seq ?_
          refine WC.seq ?_
          refine WC.region ?_
          refine WL.op (d := 57) (.int .i64 (v.length : Int)) (k := ?_)
          refine WL.rw (t := 57) (v := .int .i64 3) (congrArg (Value.int .i64) (eq_of_beq h131)) (k := ?_)
          refine WL.op (d := 58) (.pointer (some ⟨b7, 3, none⟩)) (k := ?_)
          refine WL.load (v := .int .i64 (numR (List.drop a.toNat (List.take i.toNat l)))) (ld1 (T := 2) (i := 3) hb133) (k := ?_)
          refine WL.op (d := 60) (.bool (decide ((numR (List.drop a.toNat (List.take i.toNat l))) < 0))) (k := ?_)
          refine WL.nil ?_
          refine WX.seqN ?_
          refine WC.cond (b := decide ((numR (List.drop a.toNat (List.take i.toNat l))) < 0)) (ht := fun h135 => ?_) (hf := fun h135 => ?_)
          · have ph135 := of_decide_eq_true h135
            refine WC.seq ?_
            refine WC.region ?_
            refine WL.op (d := 61) (.agg #[.int .i64 0, .int .i64 0, .int .i64 0, .int .i64 0, .int .i64 0]) (k := ?_)
            refine WL.store (v := .agg #[.int .i64 0, .int .i64 0, .int .i64 0, .int .i64 0, .int .i64 0]) (i := 0) (cs' := #[.int .i64 0, .int .i64 0, .int .i64 0, .int .i64 0, .int .i64 0]) hb15 (k := fun w136 hb137 k138 => ?_)
            replace hb133 := k138.heap hb133 (Ne.symm n13)
            replace K := K.trans' k138 (fun i hi e => absurd (e ▸ hi) (Nat.not_lt.2 z6))
            clear hb15
            refine WL.op (d := 3) (.bool false) (k := ?_)
            refine WL.nil ?_
            refine WX.seqN ?_
            refine WC.ret ?_
            refine WX.seqR ?_
            refine WX.blockR ?_
            refine WX.seqR ?_
            refine WX.seqR ?_
            refine WX.blockR ?_
            refine WX.seqR ?_
            refine WX.ret (rs := [.cell 2 29, .tmp 3]) [.agg #[.int .i64 0, .int .i64 0, .int .i64 0, .int .i64 0, .int .i64 0], .bool false] (.tuple #[.agg #[.int .i64 0, .int .i64 0, .int .i64 0, .int .i64 0, .int .i64 0], .bool false]) ⟨⟨_, (by kernel_rfl), ldN (T := 29) (i := 0) (m := 5) (l := [.int .i64 0, .int .i64 0, .int .i64 0, .int .i64 0, .int .i64 0]) hb137⟩, (by kernel_rfl), trivial⟩ (k := ?_)
            obtain ⟨e1_, e2_⟩ := task_no (s := l) (ptJ_no hj a0 a1 (by omega) (by omega) (.inr (.inr (fun k_ => absurd (numR_pos.2 k_) (by omega)))))
            exact ⟨by rw [e1_, e2_]; first | done | rfl, K⟩
          · have ph135 := of_decide_eq_false h135
            refine WC.skip ?_
            refine WX.seqN ?_
            refine WC.seq ?_
            refine WC.region ?_
            refine WL.op (d := 62) (.int .i64 (v.length : Int)) (k := ?_)
            refine WL.opE (d := 63) (.int .i64 (IntKind.i64.wrap ((v.length : Int) + 1))) (v := .int .i64 ((v.length : Int) + 1)) (congrArg (Value.int .i64) (IntWalk.i64_in _ (by omega))) (k := ?_)
            refine WL.op (d := 6) (.int .i64 ((v.length : Int) + 1)) (k := ?_)
            refine WL.nil ?_
            refine WX.seqN ?_
            refine WC.region ?_
            refine WL.op (d := 64) (.int .i64 i) (k := ?_)
            refine WL.opE (d := 65) (.int .i64 (IntKind.i64.wrap (i + 1))) (v := .int .i64 (i + 1)) (congrArg (Value.int .i64) (IntWalk.i64_in _ (by omega))) (k := ?_)
            refine WL.op (d := 5) (.int .i64 (i + 1)) (k := ?_)
            refine WL.nil ?_
            refine WX.blockN ?_
            refine WX.seqN ?_
            refine WC.region ?_
            refine WL.op (d := 14) (.int .i64 i) (k := ?_)
            refine WL.opE (d := 15) (.int .i64 (IntKind.i64.wrap (i + 1))) (v := .int .i64 (i + 1)) (congrArg (Value.int .i64) (IntWalk.i64_in _ (by omega))) (k := ?_)
            refine WL.op (d := 7) (.int .i64 (i + 1)) (k := ?_)
            refine WL.nil ?_
            have pn140 : numP (List.drop (a).toNat (List.take (i).toNat l)) := numR_pos.1 (by omega)
            have vl_ : v.length = 3 := by omega
            have hb139 := cells5 hb133 (gd_other (x := numV (List.drop (a).toNat (List.take (i).toNat l))) (m := 0) (by omega)) (gd_other (x := numV (List.drop (a).toNat (List.take (i).toNat l))) (m := 1) (by omega)) (gd_other (x := numV (List.drop (a).toNat (List.take (i).toNat l))) (m := 2) (by omega)) (gd_at vl_ pn140) (gd_other (x := numV (List.drop (a).toNat (List.take (i).toNat l))) (m := 4) (by omega))
            clear hb133
            refine WX.rw (t := 6) (v := .int .i64 (List.length (v ++ [numV (List.drop (a).toNat (List.take (i).toNat l))]) : Int)) (congrArg (Value.int .i64) (show ((v.length : Int) + 1) = (List.length (v ++ [numV (List.drop (a).toNat (List.take (i).toNat l))]) : Int) from by simp)) (k := ?_)
            refine WX.round (i + 1, i + 1, (v ++ [numV (List.drop (a).toNat (List.take (i).toNat l))])) (by show (l.length + 1 - (i + 1)).toNat < (l.length + 1 - i).toNat; omega) ⟨(by kernel_rfl), (by kernel_rfl), (by kernel_rfl), (by kernel_rfl), (by kernel_rfl), (by kernel_rfl), trivial⟩ ⟨K, hb15, hb139, (by omega), (by omega), (by omega), (by omega), (ptJ_step hj a0 a1 (by omega) (by omega) (by omega) (fun q_ => iff_t h97) (numR_pos.1 (by omega))), (by simp; omega)⟩
        have ph131 := ne_of_beq_false h131
        refine bsplit ((v.length : Int) == 4) (fun h141 => ?_) (fun h141 => ?_)
        · have ph141 := eq_of_beq h141
          refine WL.rw (t := 50) (v := .int .i64 4) (congrArg (Value.int .i64) (eq_of_beq h141)) (k := ?_)
          refine WL.op (d := 56) (.pointer (some ⟨b7, 4, none⟩)) (k := ?_)
          refine WL.store (v := .int .i64 (numR (List.drop a.toNat (List.take i.toNat l)))) (i := 4) (cs' := #[.int .i64 ((List.getD v 0 0 : Nat) : Int), .int .i64 ((List.getD v 1 0 : Nat) : Int), .int .i64 ((List.getD v 2 0 : Nat) : Int), .int .i64 ((List.getD v 3 0 : Nat) : Int), .int .i64 (numR (List.drop a.toNat (List.take i.toNat l)))]) hb16 (k := fun w142 hb143 k144 => ?_)
          replace hb15 := k144.heap hb15 n13
          replace K := K.trans' k144 (fun i hi e => absurd (e ▸ hi) (Nat.not_lt.2 z12))
          clear hb16
          refine WL.nil ?_
          refine WX.seqN ?_
          refine WC.seq ?_
          refine WC.seq ?_
          refine WC.region ?_
          refine WL.op (d := 57) (.int .i64 (v.length : Int)) (k := ?_)
          refine WL.rw (t := 57) (v := .int .i64 4) (congrArg (Value.int .i64) (eq_of_beq h141)) (k := ?_)
          refine WL.op (d := 58) (.pointer (some ⟨b7, 4, none⟩)) (k := ?_)
          refine WL.load (v := .int .i64 (numR (List.drop a.toNat (List.take i.toNat l)))) (ld1 (T := 2) (i := 4) hb143) (k := ?_)
          refine WL.op (d := 60) (.bool (decide ((numR (List.drop a.toNat (List.take i.toNat l))) < 0))) (k := ?_)
          refine WL.nil ?_
          refine WX.seqN ?_
          refine WC.cond (b := decide ((numR (List.drop a.toNat (List.take i.toNat l))) < 0)) (ht := fun h145 => ?_) (hf := fun h145 => ?_)
          · have ph145 := of_decide_eq_true h145
            refine WC.seq ?_
            refine WC.region ?_
            refine WL.op (d := 61) (.agg #[.int .i64 0, .int .i64 0, .int .i64 0, .int .i64 0, .int .i64 0]) (k := ?_)
            refine WL.store (v := .agg #[.int .i64 0, .int .i64 0, .int .i64 0, .int .i64 0, .int .i64 0]) (i := 0) (cs' := #[.int .i64 0, .int .i64 0, .int .i64 0, .int .i64 0, .int .i64 0]) hb15 (k := fun w146 hb147 k148 => ?_)
            replace hb143 := k148.heap hb143 (Ne.symm n13)
            replace K := K.trans' k148 (fun i hi e => absurd (e ▸ hi) (Nat.not_lt.2 z6))
            clear hb15
            refine WL.op (d := 3) (.bool false) (k := ?_)
            refine WL.nil ?_
            refine WX.seqN ?_
            refine WC.ret ?_
            refine WX.seqR ?_
            refine WX.blockR ?_
            refine WX.seqR ?_
            refine WX.seqR ?_
            refine WX.blockR ?_
            refine WX.seqR ?_
            refine WX.ret (rs := [.cell 2 29, .tmp 3]) [.agg #[.int .i64 0, .int .i64 0, .int .i64 0, .int .i64 0, .int .i64 0], .bool false] (.tuple #[.agg #[.int .i64 0, .int .i64 0, .int .i64 0, .int .i64 0, .int .i64 0], .bool false]) ⟨⟨_, (by kernel_rfl), ldN (T := 29) (i := 0) (m := 5) (l := [.int .i64 0, .int .i64 0, .int .i64 0, .int .i64 0, .int .i64 0]) hb147⟩, (by kernel_rfl), trivial⟩ (k := ?_)
            obtain ⟨e1_, e2_⟩ := task_no (s := l) (ptJ_no hj a0 a1 (by omega) (by omega) (.inr (.inr (fun k_ => absurd (numR_pos.2 k_) (by omega)))))
            exact ⟨by rw [e1_, e2_]; first | done | rfl, K⟩
          · have ph145 := of_decide_eq_false h145
            refine WC.skip ?_
            refine WX.seqN ?_
            refine WC.seq ?_
            refine WC.region ?_
            refine WL.op (d := 62) (.int .i64 (v.length : Int)) (k := ?_)
            refine WL.opE (d := 63) (.int .i64 (IntKind.i64.wrap ((v.length : Int) + 1))) (v := .int .i64 ((v.length : Int) + 1)) (congrArg (Value.int .i64) (IntWalk.i64_in _ (by omega))) (k := ?_)
            refine WL.op (d := 6) (.int .i64 ((v.length : Int) + 1)) (k := ?_)
            refine WL.nil ?_
            refine WX.seqN ?_
            refine WC.region ?_
            refine WL.op (d := 64) (.int .i64 i) (k := ?_)
            refine WL.opE (d := 65) (.int .i64 (IntKind.i64.wrap (i + 1))) (v := .int .i64 (i + 1)) (congrArg (Value.int .i64) (IntWalk.i64_in _ (by omega))) (k := ?_)
            refine WL.op (d := 5) (.int .i64 (i + 1)) (k := ?_)
            refine WL.nil ?_
            refine WX.blockN ?_
            refine WX.seqN ?_
            refine WC.region ?_
            refine WL.op (d := 14) (.int .i64 i) (k := ?_)
            refine WL.opE (d := 15) (.int .i64 (IntKind.i64.wrap (i + 1))) (v := .int .i64 (i + 1)) (congrArg (Value.int .i64) (IntWalk.i64_in _ (by omega))) (k := ?_)
            refine WL.op (d := 7) (.int .i64 (i + 1)) (k := ?_)
            refine WL.nil ?_
            have pn150 : numP (List.drop (a).toNat (List.take (i).toNat l)) := numR_pos.1 (by omega)
            have vl_ : v.length = 4 := by omega
            have hb149 := cells5 hb143 (gd_other (x := numV (List.drop (a).toNat (List.take (i).toNat l))) (m := 0) (by omega)) (gd_other (x := numV (List.drop (a).toNat (List.take (i).toNat l))) (m := 1) (by omega)) (gd_other (x := numV (List.drop (a).toNat (List.take (i).toNat l))) (m := 2) (by omega)) (gd_other (x := numV (List.drop (a).toNat (List.take (i).toNat l))) (m := 3) (by omega)) (gd_at vl_ pn150)
            clear hb143
            refine WX.rw (t := 6) (v := .int .i64 (List.length (v ++ [numV (List.drop (a).toNat (List.take (i).toNat l))]) : Int)) (congrArg (Value.int .i64) (show ((v.length : Int) + 1) = (List.length (v ++ [numV (List.drop (a).toNat (List.take (i).toNat l))]) : Int) from by simp)) (k := ?_)
            refine WX.round (i + 1, i + 1, (v ++ [numV (List.drop (a).toNat (List.take (i).toNat l))])) (by show (l.length + 1 - (i + 1)).toNat < (l.length + 1 - i).toNat; omega) ⟨(by kernel_rfl), (by kernel_rfl), (by kernel_rfl), (by kernel_rfl), (by kernel_rfl), (by kernel_rfl), trivial⟩ ⟨K, hb15, hb149, (by omega), (by omega), (by omega), (by omega), (ptJ_step hj a0 a1 (by omega) (by omega) (by omega) (fun q_ => iff_t h97) (numR_pos.1 (by omega))), (by simp; omega)⟩
        have ph141 := ne_of_beq_false h141
        exfalso; omega
    have ph18 := of_decide_eq_false h18
    refine WL.rw (t := 20) (v := .bool false) (congrArg Value.bool h18) (k := ?_)
    refine WL.skip (d := 21) (k := ?_)
    refine WL.skip (d := 22) (k := ?_)
    refine WL.skip (d := 23) (k := ?_)
    refine WL.skip (d := 24) (k := ?_)
    refine WL.op (d := 25) (.bool false) (k := ?_)
    refine WL.op (d := 26) (.bool false) (k := ?_)
    refine WL.skip (d := 27) (k := ?_)
    refine WL.skip (d := 28) (k := ?_)
    refine WL.skip (d := 29) (k := ?_)
    refine WL.skip (d := 30) (k := ?_)
    refine WL.op (d := 31) (.bool false) (k := ?_)
    refine WL.nil ?_
    refine WX.seqN ?_
    refine WC.condF (k := ?_)
    refine WC.skip ?_
    refine WX.seqN ?_
    refine WC.seq ?_
    refine WC.seq ?_
    refine WC.region ?_
    refine WL.op (d := 32) (.int .i64 (v.length : Int)) (k := ?_)
    refine WL.op (d := 33) (.bool (decide ((v.length : Int) > 4))) (k := ?_)
    refine WL.op (d := 34) (.bool (decide ((v.length : Int) > 4))) (k := ?_)
    refine bsplit (decide ((v.length : Int) > 4)) (fun h151 => ?_) (fun h151 => ?_)
    · have ph151 := of_decide_eq_true h151
      refine WL.rw (t := 34) (v := .bool true) (congrArg Value.bool h151) (k := ?_)
      refine WL.skip (d := 35) (k := ?_)
      refine WL.skip (d := 36) (k := ?_)
      refine WL.skip (d := 37) (k := ?_)
      refine WL.skip (d := 38) (k := ?_)
      refine WL.skip (d := 39) (k := ?_)
      refine WL.skip (d := 40) (k := ?_)
      refine WL.skip (d := 41) (k := ?_)
      refine WL.skip (d := 42) (k := ?_)
      refine WL.skip (d := 43) (k := ?_)
      refine WL.skip (d := 44) (k := ?_)
      refine WL.skip (d := 45) (k := ?_)
      refine WL.skip (d := 46) (k := ?_)
      refine WL.skip (d := 47) (k := ?_)
      refine WL.op (d := 48) (.bool true) (k := ?_)
      refine WL.nil ?_
      refine WX.seqN ?_
      refine WC.condT (k := ?_)
      refine WC.seq ?_
      refine WC.region ?_
      refine WL.op (d := 49) (.agg #[.int .i64 0, .int .i64 0, .int .i64 0, .int .i64 0, .int .i64 0]) (k := ?_)
      refine WL.store (v := .agg #[.int .i64 0, .int .i64 0, .int .i64 0, .int .i64 0, .int .i64 0]) (i := 0) (cs' := #[.int .i64 0, .int .i64 0, .int .i64 0, .int .i64 0, .int .i64 0]) hb15 (k := fun w152 hb153 k154 => ?_)
      replace hb16 := k154.heap hb16 (Ne.symm n13)
      replace K := K.trans' k154 (fun i hi e => absurd (e ▸ hi) (Nat.not_lt.2 z6))
      clear hb15
      refine WL.op (d := 3) (.bool false) (k := ?_)
      refine WL.nil ?_
      refine WX.seqN ?_
      refine WC.ret ?_
      refine WX.seqR ?_
      refine WX.blockR ?_
      refine WX.seqR ?_
      refine WX.seqR ?_
      refine WX.blockR ?_
      refine WX.seqR ?_
      refine WX.ret (rs := [.cell 2 29, .tmp 3]) [.agg #[.int .i64 0, .int .i64 0, .int .i64 0, .int .i64 0, .int .i64 0], .bool false] (.tuple #[.agg #[.int .i64 0, .int .i64 0, .int .i64 0, .int .i64 0, .int .i64 0], .bool false]) ⟨⟨_, (by kernel_rfl), ldN (T := 29) (i := 0) (m := 5) (l := [.int .i64 0, .int .i64 0, .int .i64 0, .int .i64 0, .int .i64 0]) hb153⟩, (by kernel_rfl), trivial⟩ (k := ?_)
      obtain ⟨e1_, e2_⟩ := task_no (s := l) (ptJ_no hj a0 a1 (by omega) (by omega) (by omega))
      exact ⟨by rw [e1_, e2_]; first | done | rfl, K⟩
    have ph151 := of_decide_eq_false h151
    refine WL.rw (t := 34) (v := .bool false) (congrArg Value.bool h151) (k := ?_)
    refine WL.op (d := 35) (.int .i64 i) (k := ?_)
    refine WL.op (d := 36) (.string ⟨(l).toArray⟩) (k := ?_)
    refine WL.op (d := 37) (.int .i64 (l.length : Int)) (k := ?_)
    refine WL.op (d := 38) (.bool (decide (i < (l.length : Int)))) (k := ?_)
    refine WL.op (d := 39) (.bool (decide (i < (l.length : Int)))) (k := ?_)
    refine WL.rw (t := 39) (v := .bool false) (congrArg Value.bool h18) (k := ?_)
    refine WL.skip (d := 40) (k := ?_)
    refine WL.skip (d := 41) (k := ?_)
    refine WL.skip (d := 42) (k := ?_)
    refine WL.skip (d := 43) (k := ?_)
    refine WL.skip (d := 44) (k := ?_)
    refine WL.skip (d := 45) (k := ?_)
    refine WL.skip (d := 46) (k := ?_)
    refine WL.op (d := 47) (.bool false) (k := ?_)
    refine WL.op (d := 48) (.bool false) (k := ?_)
    refine WL.nil ?_
    refine WX.seqN ?_
    refine WC.condF (k := ?_)
    refine WC.skip ?_
    refine WX.seqN ?_
    refine WC.seq ?_
    refine WC.region ?_
    refine WL.op (d := 50) (.int .i64 (v.length : Int)) (k := ?_)
    refine WL.op (d := 51) (.string ⟨(l).toArray⟩) (k := ?_)
    refine WL.op (d := 52) (.int .i64 a) (k := ?_)
    refine WL.op (d := 53) (.int .i64 i) (k := ?_)
    refine WL.cut (d := 54) (vx := .string ⟨(l).toArray⟩) (lo' := (some (.int .i64 a))) (hi' := (some (.int .i64 i))) (mx' := none) (v := .string ⟨(List.drop a.toNat (List.take i.toNat l)).toArray⟩) (run_cut (P := Tryz.prog) (w := w14) (lo := (some (.int .i64 a))) (hi := (some (.int .i64 i))) (T := 9) (a := a.toNat) (b := i.toNat) (l := l) (by kernel_rfl) (.inr ⟨_, _, rfl, by omega⟩) (.inr ⟨_, _, rfl, by omega⟩) (by first | omega | (simp; omega)) (by first | omega | (simp; omega))) (k := ?_)
    refine WL.callG (d := 55) (f := 31) (args := #[.string ⟨(List.drop a.toNat (List.take i.toNat l)).toArray⟩]) (u25number_c (l := (List.drop a.toNat (List.take i.toNat l))) (by first | omega | (simp; omega)) w14) (k := fun e_ w156 h_ => ⟨.int .i64 (numR (List.drop a.toNat (List.take i.toNat l))), h_.1, ?_⟩)
    have k157 := h_.2; clear h_
    replace hb15 := k157.heap hb15 id
    replace hb16 := k157.heap hb16 id
    replace K := K.trans (k157.any _)
    have nr155 := numR_rng (List.drop a.toNat (List.take i.toNat l))
    refine bsplit ((v.length : Int) == 0) (fun h158 => ?_) (fun h158 => ?_)
    · have ph158 := eq_of_beq h158
      refine WL.rw (t := 50) (v := .int .i64 0) (congrArg (Value.int .i64) (eq_of_beq h158)) (k := ?_)
      refine WL.op (d := 56) (.pointer (some ⟨b7, 0, none⟩)) (k := ?_)
      refine WL.store (v := .int .i64 (numR (List.drop a.toNat (List.take i.toNat l)))) (i := 0) (cs' := #[.int .i64 (numR (List.drop a.toNat (List.take i.toNat l))), .int .i64 ((List.getD v 1 0 : Nat) : Int), .int .i64 ((List.getD v 2 0 : Nat) : Int), .int .i64 ((List.getD v 3 0 : Nat) : Int), .int .i64 ((List.getD v 4 0 : Nat) : Int)]) hb16 (k := fun w159 hb160 k161 => ?_)
      replace hb15 := k161.heap hb15 n13
      replace K := K.trans' k161 (fun i hi e => absurd (e ▸ hi) (Nat.not_lt.2 z12))
      clear hb16
      refine WL.nil ?_
      refine WX.seqN ?_
      refine WC.seq ?_
      refine WC.seq ?_
      refine WC.region ?_
      refine WL.op (d := 57) (.int .i64 (v.length : Int)) (k := ?_)
      refine WL.rw (t := 57) (v := .int .i64 0) (congrArg (Value.int .i64) (eq_of_beq h158)) (k := ?_)
      refine WL.op (d := 58) (.pointer (some ⟨b7, 0, none⟩)) (k := ?_)
      refine WL.load (v := .int .i64 (numR (List.drop a.toNat (List.take i.toNat l)))) (ld1 (T := 2) (i := 0) hb160) (k := ?_)
      refine WL.op (d := 60) (.bool (decide ((numR (List.drop a.toNat (List.take i.toNat l))) < 0))) (k := ?_)
      refine WL.nil ?_
      refine WX.seqN ?_
      refine WC.cond (b := decide ((numR (List.drop a.toNat (List.take i.toNat l))) < 0)) (ht := fun h162 => ?_) (hf := fun h162 => ?_)
      · have ph162 := of_decide_eq_true h162
        refine WC.seq ?_
        refine WC.region ?_
        refine WL.op (d := 61) (.agg #[.int .i64 0, .int .i64 0, .int .i64 0, .int .i64 0, .int .i64 0]) (k := ?_)
        refine WL.store (v := .agg #[.int .i64 0, .int .i64 0, .int .i64 0, .int .i64 0, .int .i64 0]) (i := 0) (cs' := #[.int .i64 0, .int .i64 0, .int .i64 0, .int .i64 0, .int .i64 0]) hb15 (k := fun w163 hb164 k165 => ?_)
        replace hb160 := k165.heap hb160 (Ne.symm n13)
        replace K := K.trans' k165 (fun i hi e => absurd (e ▸ hi) (Nat.not_lt.2 z6))
        clear hb15
        refine WL.op (d := 3) (.bool false) (k := ?_)
        refine WL.nil ?_
        refine WX.seqN ?_
        refine WC.ret ?_
        refine WX.seqR ?_
        refine WX.blockR ?_
        refine WX.seqR ?_
        refine WX.seqR ?_
        refine WX.blockR ?_
        refine WX.seqR ?_
        refine WX.ret (rs := [.cell 2 29, .tmp 3]) [.agg #[.int .i64 0, .int .i64 0, .int .i64 0, .int .i64 0, .int .i64 0], .bool false] (.tuple #[.agg #[.int .i64 0, .int .i64 0, .int .i64 0, .int .i64 0, .int .i64 0], .bool false]) ⟨⟨_, (by kernel_rfl), ldN (T := 29) (i := 0) (m := 5) (l := [.int .i64 0, .int .i64 0, .int .i64 0, .int .i64 0, .int .i64 0]) hb164⟩, (by kernel_rfl), trivial⟩ (k := ?_)
        obtain ⟨e1_, e2_⟩ := task_no (s := l) (ptJ_no hj a0 a1 (by omega) (by omega) (.inr (.inr (fun k_ => absurd (numR_pos.2 k_) (by omega)))))
        exact ⟨by rw [e1_, e2_]; first | done | rfl, K⟩
      · have ph162 := of_decide_eq_false h162
        refine WC.skip ?_
        refine WX.seqN ?_
        refine WC.seq ?_
        refine WC.region ?_
        refine WL.op (d := 62) (.int .i64 (v.length : Int)) (k := ?_)
        refine WL.opE (d := 63) (.int .i64 (IntKind.i64.wrap ((v.length : Int) + 1))) (v := .int .i64 ((v.length : Int) + 1)) (congrArg (Value.int .i64) (IntWalk.i64_in _ (by omega))) (k := ?_)
        refine WL.op (d := 6) (.int .i64 ((v.length : Int) + 1)) (k := ?_)
        refine WL.nil ?_
        refine WX.seqN ?_
        refine WC.region ?_
        refine WL.op (d := 64) (.int .i64 i) (k := ?_)
        refine WL.opE (d := 65) (.int .i64 (IntKind.i64.wrap (i + 1))) (v := .int .i64 (i + 1)) (congrArg (Value.int .i64) (IntWalk.i64_in _ (by omega))) (k := ?_)
        refine WL.op (d := 5) (.int .i64 (i + 1)) (k := ?_)
        refine WL.nil ?_
        refine WX.blockN ?_
        refine WX.seqN ?_
        refine WC.region ?_
        refine WL.op (d := 14) (.int .i64 i) (k := ?_)
        refine WL.opE (d := 15) (.int .i64 (IntKind.i64.wrap (i + 1))) (v := .int .i64 (i + 1)) (congrArg (Value.int .i64) (IntWalk.i64_in _ (by omega))) (k := ?_)
        refine WL.op (d := 7) (.int .i64 (i + 1)) (k := ?_)
        refine WL.nil ?_
        have pn167 : numP (List.drop (a).toNat (List.take (i).toNat l)) := numR_pos.1 (by omega)
        have vl_ : v.length = 0 := by omega
        have hb166 := cells5 hb160 (gd_at vl_ pn167) (gd_other (x := numV (List.drop (a).toNat (List.take (i).toNat l))) (m := 1) (by omega)) (gd_other (x := numV (List.drop (a).toNat (List.take (i).toNat l))) (m := 2) (by omega)) (gd_other (x := numV (List.drop (a).toNat (List.take (i).toNat l))) (m := 3) (by omega)) (gd_other (x := numV (List.drop (a).toNat (List.take (i).toNat l))) (m := 4) (by omega))
        clear hb160
        refine WX.rw (t := 6) (v := .int .i64 (List.length (v ++ [numV (List.drop (a).toNat (List.take (i).toNat l))]) : Int)) (congrArg (Value.int .i64) (show ((v.length : Int) + 1) = (List.length (v ++ [numV (List.drop (a).toNat (List.take (i).toNat l))]) : Int) from by simp)) (k := ?_)
        refine WX.round (i + 1, i + 1, (v ++ [numV (List.drop (a).toNat (List.take (i).toNat l))])) (by show (l.length + 1 - (i + 1)).toNat < (l.length + 1 - i).toNat; omega) ⟨(by kernel_rfl), (by kernel_rfl), (by kernel_rfl), (by kernel_rfl), (by kernel_rfl), (by kernel_rfl), trivial⟩ ⟨K, hb15, hb166, (by omega), (by omega), (by omega), (by omega), (ptJ_step hj a0 a1 (by omega) (by omega) (by omega) (fun q_ => by omega) (numR_pos.1 (by omega))), (by simp; omega)⟩
    have ph158 := ne_of_beq_false h158
    refine bsplit ((v.length : Int) == 1) (fun h168 => ?_) (fun h168 => ?_)
    · have ph168 := eq_of_beq h168
      refine WL.rw (t := 50) (v := .int .i64 1) (congrArg (Value.int .i64) (eq_of_beq h168)) (k := ?_)
      refine WL.op (d := 56) (.pointer (some ⟨b7, 1, none⟩)) (k := ?_)
      refine WL.store (v := .int .i64 (numR (List.drop a.toNat (List.take i.toNat l)))) (i := 1) (cs' := #[.int .i64 ((List.getD v 0 0 : Nat) : Int), .int .i64 (numR (List.drop a.toNat (List.take i.toNat l))), .int .i64 ((List.getD v 2 0 : Nat) : Int), .int .i64 ((List.getD v 3 0 : Nat) : Int), .int .i64 ((List.getD v 4 0 : Nat) : Int)]) hb16 (k := fun w169 hb170 k171 => ?_)
      replace hb15 := k171.heap hb15 n13
      replace K := K.trans' k171 (fun i hi e => absurd (e ▸ hi) (Nat.not_lt.2 z12))
      clear hb16
      refine WL.nil ?_
      refine WX.seqN ?_
      refine WC.seq ?_
      refine WC.seq ?_
      refine WC.region ?_
      refine WL.op (d := 57) (.int .i64 (v.length : Int)) (k := ?_)
      refine WL.rw (t := 57) (v := .int .i64 1) (congrArg (Value.int .i64) (eq_of_beq h168)) (k := ?_)
      refine WL.op (d := 58) (.pointer (some ⟨b7, 1, none⟩)) (k := ?_)
      refine WL.load (v := .int .i64 (numR (List.drop a.toNat (List.take i.toNat l)))) (ld1 (T := 2) (i := 1) hb170) (k := ?_)
      refine WL.op (d := 60) (.bool (decide ((numR (List.drop a.toNat (List.take i.toNat l))) < 0))) (k := ?_)
      refine WL.nil ?_
      refine WX.seqN ?_
      refine WC.cond (b := decide ((numR (List.drop a.toNat (List.take i.toNat l))) < 0)) (ht := fun h172 => ?_) (hf := fun h172 => ?_)
      · have ph172 := of_decide_eq_true h172
        refine WC.seq ?_
        refine WC.region ?_
        refine WL.op (d := 61) (.agg #[.int .i64 0, .int .i64 0, .int .i64 0, .int .i64 0, .int .i64 0]) (k := ?_)
        refine WL.store (v := .agg #[.int .i64 0, .int .i64 0, .int .i64 0, .int .i64 0, .int .i64 0]) (i := 0) (cs' := #[.int .i64 0, .int .i64 0, .int .i64 0, .int .i64 0, .int .i64 0]) hb15 (k := fun w173 hb174 k175 => ?_)
        replace hb170 := k175.heap hb170 (Ne.symm n13)
        replace K := K.trans' k175 (fun i hi e => absurd (e ▸ hi) (Nat.not_lt.2 z6))
        clear hb15
        refine WL.op (d := 3) (.bool false) (k := ?_)
        refine WL.nil ?_
        refine WX.seqN ?_
        refine WC.ret ?_
        refine WX.seqR ?_
        refine WX.blockR ?_
        refine WX.seqR ?_
        refine WX.seqR ?_
        refine WX.blockR ?_
        refine WX.seqR ?_
        refine WX.ret (rs := [.cell 2 29, .tmp 3]) [.agg #[.int .i64 0, .int .i64 0, .int .i64 0, .int .i64 0, .int .i64 0], .bool false] (.tuple #[.agg #[.int .i64 0, .int .i64 0, .int .i64 0, .int .i64 0, .int .i64 0], .bool false]) ⟨⟨_, (by kernel_rfl), ldN (T := 29) (i := 0) (m := 5) (l := [.int .i64 0, .int .i64 0, .int .i64 0, .int .i64 0, .int .i64 0]) hb174⟩, (by kernel_rfl), trivial⟩ (k := ?_)
        obtain ⟨e1_, e2_⟩ := task_no (s := l) (ptJ_no hj a0 a1 (by omega) (by omega) (.inr (.inr (fun k_ => absurd (numR_pos.2 k_) (by omega)))))
        exact ⟨by rw [e1_, e2_]; first | done | rfl, K⟩
      · have ph172 := of_decide_eq_false h172
        refine WC.skip ?_
        refine WX.seqN ?_
        refine WC.seq ?_
        refine WC.region ?_
        refine WL.op (d := 62) (.int .i64 (v.length : Int)) (k := ?_)
        refine WL.opE (d := 63) (.int .i64 (IntKind.i64.wrap ((v.length : Int) + 1))) (v := .int .i64 ((v.length : Int) + 1)) (congrArg (Value.int .i64) (IntWalk.i64_in _ (by omega))) (k := ?_)
        refine WL.op (d := 6) (.int .i64 ((v.length : Int) + 1)) (k := ?_)
        refine WL.nil ?_
        refine WX.seqN ?_
        refine WC.region ?_
        refine WL.op (d := 64) (.int .i64 i) (k := ?_)
        refine WL.opE (d := 65) (.int .i64 (IntKind.i64.wrap (i + 1))) (v := .int .i64 (i + 1)) (congrArg (Value.int .i64) (IntWalk.i64_in _ (by omega))) (k := ?_)
        refine WL.op (d := 5) (.int .i64 (i + 1)) (k := ?_)
        refine WL.nil ?_
        refine WX.blockN ?_
        refine WX.seqN ?_
        refine WC.region ?_
        refine WL.op (d := 14) (.int .i64 i) (k := ?_)
        refine WL.opE (d := 15) (.int .i64 (IntKind.i64.wrap (i + 1))) (v := .int .i64 (i + 1)) (congrArg (Value.int .i64) (IntWalk.i64_in _ (by omega))) (k := ?_)
        refine WL.op (d := 7) (.int .i64 (i + 1)) (k := ?_)
        refine WL.nil ?_
        have pn177 : numP (List.drop (a).toNat (List.take (i).toNat l)) := numR_pos.1 (by omega)
        have vl_ : v.length = 1 := by omega
        have hb176 := cells5 hb170 (gd_other (x := numV (List.drop (a).toNat (List.take (i).toNat l))) (m := 0) (by omega)) (gd_at vl_ pn177) (gd_other (x := numV (List.drop (a).toNat (List.take (i).toNat l))) (m := 2) (by omega)) (gd_other (x := numV (List.drop (a).toNat (List.take (i).toNat l))) (m := 3) (by omega)) (gd_other (x := numV (List.drop (a).toNat (List.take (i).toNat l))) (m := 4) (by omega))
        clear hb170
        refine WX.rw (t := 6) (v := .int .i64 (List.length (v ++ [numV (List.drop (a).toNat (List.take (i).toNat l))]) : Int)) (congrArg (Value.int .i64) (show ((v.length : Int) + 1) = (List.length (v ++ [numV (List.drop (a).toNat (List.take (i).toNat l))]) : Int) from by simp)) (k := ?_)
        refine WX.round (i + 1, i + 1, (v ++ [numV (List.drop (a).toNat (List.take (i).toNat l))])) (by show (l.length + 1 - (i + 1)).toNat < (l.length + 1 - i).toNat; omega) ⟨(by kernel_rfl), (by kernel_rfl), (by kernel_rfl), (by kernel_rfl), (by kernel_rfl), (by kernel_rfl), trivial⟩ ⟨K, hb15, hb176, (by omega), (by omega), (by omega), (by omega), (ptJ_step hj a0 a1 (by omega) (by omega) (by omega) (fun q_ => by omega) (numR_pos.1 (by omega))), (by simp; omega)⟩
    have ph168 := ne_of_beq_false h168
    refine bsplit ((v.length : Int) == 2) (fun h178 => ?_) (fun h178 => ?_)
    · have ph178 := eq_of_beq h178
      refine WL.rw (t := 50) (v := .int .i64 2) (congrArg (Value.int .i64) (eq_of_beq h178)) (k := ?_)
      refine WL.op (d := 56) (.pointer (some ⟨b7, 2, none⟩)) (k := ?_)
      refine WL.store (v := .int .i64 (numR (List.drop a.toNat (List.take i.toNat l)))) (i := 2) (cs' := #[.int .i64 ((List.getD v 0 0 : Nat) : Int), .int .i64 ((List.getD v 1 0 : Nat) : Int), .int .i64 (numR (List.drop a.toNat (List.take i.toNat l))), .int .i64 ((List.getD v 3 0 : Nat) : Int), .int .i64 ((List.getD v 4 0 : Nat) : Int)]) hb16 (k := fun w179 hb180 k181 => ?_)
      replace hb15 := k181.heap hb15 n13
      replace K := K.trans' k181 (fun i hi e => absurd (e ▸ hi) (Nat.not_lt.2 z12))
      clear hb16
      refine WL.nil ?_
      refine WX.seqN ?_
      refine WC.seq ?_
      refine WC.seq ?_
      refine WC.region ?_
      refine WL.op (d := 57) (.int .i64 (v.length : Int)) (k := ?_)
      refine WL.rw (t := 57) (v := .int .i64 2) (congrArg (Value.int .i64) (eq_of_beq h178)) (k := ?_)
      refine WL.op (d := 58) (.pointer (some ⟨b7, 2, none⟩)) (k := ?_)
      refine WL.load (v := .int .i64 (numR (List.drop a.toNat (List.take i.toNat l)))) (ld1 (T := 2) (i := 2) hb180) (k := ?_)
      refine WL.op (d := 60) (.bool (decide ((numR (List.drop a.toNat (List.take i.toNat l))) < 0))) (k := ?_)
      refine WL.nil ?_
      refine WX.seqN ?_
      refine WC.cond (b := decide ((numR (List.drop a.toNat (List.take i.toNat l))) < 0)) (ht := fun h182 => ?_) (hf := fun h182 => ?_)
      · have ph182 := of_decide_eq_true h182
        refine WC.seq ?_
        refine WC.region ?_
        refine WL.op (d := 61) (.agg #[.int .i64 0, .int .i64 0, .int .i64 0, .int .i64 0, .int .i64 0]) (k := ?_)
        refine WL.store (v := .agg #[.int .i64 0, .int .i64 0, .int .i64 0, .int .i64 0, .int .i64 0]) (i := 0) (cs' := #[.int .i64 0, .int .i64 0, .int .i64 0, .int .i64 0, .int .i64 0]) hb15 (k := fun w183 hb184 k185 => ?_)
        replace hb180 := k185.heap hb180 (Ne.symm n13)
        replace K := K.trans' k185 (fun i hi e => absurd (e ▸ hi) (Nat.not_lt.2 z6))
        clear hb15
        refine WL.op (d := 3) (.bool false) (k := ?_)
        refine WL.nil ?_
        refine WX.seqN ?_
        refine WC.ret ?_
        refine WX.seqR ?_
        refine WX.blockR ?_
        refine WX.seqR ?_
        refine WX.seqR ?_
        refine WX.blockR ?_
        refine WX.seqR ?_
        refine WX.ret (rs := [.cell 2 29, .tmp 3]) [.agg #[.int .i64 0, .int .i64 0, .int .i64 0, .int .i64 0, .int .i64 0], .bool false] (.tuple #[.agg #[.int .i64 0, .int .i64 0, .int .i64 0, .int .i64 0, .int .i64 0], .bool false]) ⟨⟨_, (by kernel_rfl), ldN (T := 29) (i := 0) (m := 5) (l := [.int .i64 0, .int .i64 0, .int .i64 0, .int .i64 0, .int .i64 0]) hb184⟩, (by kernel_rfl), trivial⟩ (k := ?_)
        obtain ⟨e1_, e2_⟩ := task_no (s := l) (ptJ_no hj a0 a1 (by omega) (by omega) (.inr (.inr (fun k_ => absurd (numR_pos.2 k_) (by omega)))))
        exact ⟨by rw [e1_, e2_]; first | done | rfl, K⟩
      · have ph182 := of_decide_eq_false h182
        refine WC.skip ?_
        refine WX.seqN ?_
        refine WC.seq ?_
        refine WC.region ?_
        refine WL.op (d := 62) (.int .i64 (v.length : Int)) (k := ?_)
        refine WL.opE (d := 63) (.int .i64 (IntKind.i64.wrap ((v.length : Int) + 1))) (v := .int .i64 ((v.length : Int) + 1)) (congrArg (Value.int .i64) (IntWalk.i64_in _ (by omega))) (k := ?_)
        refine WL.op (d := 6) (.int .i64 ((v.length : Int) + 1)) (k := ?_)
        refine WL.nil ?_
        refine WX.seqN ?_
        refine WC.region ?_
        refine WL.op (d := 64) (.int .i64 i) (k := ?_)
        refine WL.opE (d := 65) (.int .i64 (IntKind.i64.wrap (i + 1))) (v := .int .i64 (i + 1)) (congrArg (Value.int .i64) (IntWalk.i64_in _ (by omega))) (k := ?_)
        refine WL.op (d := 5) (.int .i64 (i + 1)) (k := ?_)
        refine WL.nil ?_
        refine WX.blockN ?_
        refine WX.seqN ?_
        refine WC.region ?_
        refine WL.op (d := 14) (.int .i64 i) (k := ?_)
        refine WL.opE (d := 15) (.int .i64 (IntKind.i64.wrap (i + 1))) (v := .int .i64 (i + 1)) (congrArg (Value.int .i64) (IntWalk.i64_in _ (by omega))) (k := ?_)
        refine WL.op (d := 7) (.int .i64 (i + 1)) (k := ?_)
        refine WL.nil ?_
        have pn187 : numP (List.drop (a).toNat (List.take (i).toNat l)) := numR_pos.1 (by omega)
        have vl_ : v.length = 2 := by omega
        have hb186 := cells5 hb180 (gd_other (x := numV (List.drop (a).toNat (List.take (i).toNat l))) (m := 0) (by omega)) (gd_other (x := numV (List.drop (a).toNat (List.take (i).toNat l))) (m := 1) (by omega)) (gd_at vl_ pn187) (gd_other (x := numV (List.drop (a).toNat (List.take (i).toNat l))) (m := 3) (by omega)) (gd_other (x := numV (List.drop (a).toNat (List.take (i).toNat l))) (m := 4) (by omega))
        clear hb180
        refine WX.rw (t := 6) (v := .int .i64 (List.length (v ++ [numV (List.drop (a).toNat (List.take (i).toNat l))]) : Int)) (congrArg (Value.int .i64) (show ((v.length : Int) + 1) = (List.length (v ++ [numV (List.drop (a).toNat (List.take (i).toNat l))]) : Int) from by simp)) (k := ?_)
        refine WX.round (i + 1, i + 1, (v ++ [numV (List.drop (a).toNat (List.take (i).toNat l))])) (by show (l.length + 1 - (i + 1)).toNat < (l.length + 1 - i).toNat; omega) ⟨(by kernel_rfl), (by kernel_rfl), (by kernel_rfl), (by kernel_rfl), (by kernel_rfl), (by kernel_rfl), trivial⟩ ⟨K, hb15, hb186, (by omega), (by omega), (by omega), (by omega), (ptJ_step hj a0 a1 (by omega) (by omega) (by omega) (fun q_ => by omega) (numR_pos.1 (by omega))), (by simp; omega)⟩
    have ph178 := ne_of_beq_false h178
    refine bsplit ((v.length : Int) == 3) (fun h188 => ?_) (fun h188 => ?_)
    · have ph188 := eq_of_beq h188
      refine WL.rw (t := 50) (v := .int .i64 3) (congrArg (Value.int .i64) (eq_of_beq h188)) (k := ?_)
      refine WL.op (d := 56) (.pointer (some ⟨b7, 3, none⟩)) (k := ?_)
      refine WL.store (v := .int .i64 (numR (List.drop a.toNat (List.take i.toNat l)))) (i := 3) (cs' := #[.int .i64 ((List.getD v 0 0 : Nat) : Int), .int .i64 ((List.getD v 1 0 : Nat) : Int), .int .i64 ((List.getD v 2 0 : Nat) : Int), .int .i64 (numR (List.drop a.toNat (List.take i.toNat l))), .int .i64 ((List.getD v 4 0 : Nat) : Int)]) hb16 (k := fun w189 hb190 k191 => ?_)
      replace hb15 := k191.heap hb15 n13
      replace K := K.trans' k191 (fun i hi e => absurd (e ▸ hi) (Nat.not_lt.2 z12))
      clear hb16
      refine WL.nil ?_
      refine WX.seqN ?_
      refine WC.seq ?_
      refine WC.seq ?_
      refine WC.region ?_
      refine WL.op (d := 57) (.int .i64 (v.length : Int)) (k := ?_)
      refine WL.rw (t := 57) (v := .int .i64 3) (congrArg (Value.int .i64) (eq_of_beq h188)) (k := ?_)
      refine WL.op (d := 58) (.pointer (some ⟨b7, 3, none⟩)) (k := ?_)
      refine WL.load (v := .int .i64 (numR (List.drop a.toNat (List.take i.toNat l)))) (ld1 (T := 2) (i := 3) hb190) (k := ?_)
      refine WL.op (d := 60) (.bool (decide ((numR (List.drop a.toNat (List.take i.toNat l))) < 0))) (k := ?_)
      refine WL.nil ?_
      refine WX.seqN ?_
      refine WC.cond (b := decide ((numR (List.drop a.toNat (List.take i.toNat l))) < 0)) (ht := fun h192 => ?_) (hf := fun h192 => ?_)
      · have ph192 := of_decide_eq_true h192
        refine WC.seq ?_
        refine WC.region ?_
        refine WL.op (d := 61) (.agg #[.int .i64 0, .int .i64 0, .int .i64 0, .int .i64 0, .int .i64 0]) (k := ?_)
        refine WL.store (v := .agg #[.int .i64 0, .int .i64 0, .int .i64 0, .int .i64 0, .int .i64 0]) (i := 0) (cs' := #[.int .i64 0, .int .i64 0, .int .i64 0, .int .i64 0, .int .i64 0]) hb15 (k := fun w193 hb194 k195 => ?_)
        replace hb190 := k195.heap hb190 (Ne.symm n13)
        replace K := K.trans' k195 (fun i hi e => absurd (e ▸ hi) (Nat.not_lt.2 z6))
        clear hb15
        refine WL.op (d := 3) (.bool false) (k := ?_)
        refine WL.nil ?_
        refine WX.seqN ?_
        refine WC.ret ?_
        refine WX.seqR ?_
        refine WX.blockR ?_
        refine WX.seqR ?_
        refine WX.seqR ?_
        refine WX.blockR ?_
        refine WX.seqR ?_
        refine WX.ret (rs := [.cell 2 29, .tmp 3]) [.agg #[.int .i64 0, .int .i64 0, .int .i64 0, .int .i64 0, .int .i64 0], .bool false] (.tuple #[.agg #[.int .i64 0, .int .i64 0, .int .i64 0, .int .i64 0, .int .i64 0], .bool false]) ⟨⟨_, (by kernel_rfl), ldN (T := 29) (i := 0) (m := 5) (l := [.int .i64 0, .int .i64 0, .int .i64 0, .int .i64 0, .int .i64 0]) hb194⟩, (by kernel_rfl), trivial⟩ (k := ?_)
        obtain ⟨e1_, e2_⟩ := task_no (s := l) (ptJ_no hj a0 a1 (by omega) (by omega) (.inr (.inr (fun k_ => absurd (numR_pos.2 k_) (by omega)))))
        exact ⟨by rw [e1_, e2_]; first | done | rfl, K⟩
      · have ph192 := of_decide_eq_false h192
        refine WC.skip ?_
        refine WX.seqN ?_
        refine WC.seq ?_
        refine WC.region ?_
        refine WL.op (d := 62) (.int .i64 (v.length : Int)) (k := ?_)
        refine WL.opE (d := 63) (.int .i64 (IntKind.i64.wrap ((v.length : Int) + 1))) (v := .int .i64 ((v.length : Int) + 1)) (congrArg (Value.int .i64) (IntWalk.i64_in _ (by omega))) (k := ?_)
        refine WL.op (d := 6) (.int .i64 ((v.length : Int) + 1)) (k := ?_)
        refine WL.nil ?_
        refine WX.seqN ?_
        refine WC.region ?_
        refine WL.op (d := 64) (.int .i64 i) (k := ?_)
        refine WL.opE (d := 65) (.int .i64 (IntKind.i64.wrap (i + 1))) (v := .int .i64 (i + 1)) (congrArg (Value.int .i64) (IntWalk.i64_in _ (by omega))) (k := ?_)
        refine WL.op (d := 5) (.int .i64 (i + 1)) (k := ?_)
        refine WL.nil ?_
        refine WX.blockN ?_
        refine WX.seqN ?_
        refine WC.region ?_
        refine WL.op (d := 14) (.int .i64 i) (k := ?_)
        refine WL.opE (d := 15) (.int .i64 (IntKind.i64.wrap (i + 1))) (v := .int .i64 (i + 1)) (congrArg (Value.int .i64) (IntWalk.i64_in _ (by omega))) (k := ?_)
        refine WL.op (d := 7) (.int .i64 (i + 1)) (k := ?_)
        refine WL.nil ?_
        have pn197 : numP (List.drop (a).toNat (List.take (i).toNat l)) := numR_pos.1 (by omega)
        have vl_ : v.length = 3 := by omega
        have hb196 := cells5 hb190 (gd_other (x := numV (List.drop (a).toNat (List.take (i).toNat l))) (m := 0) (by omega)) (gd_other (x := numV (List.drop (a).toNat (List.take (i).toNat l))) (m := 1) (by omega)) (gd_other (x := numV (List.drop (a).toNat (List.take (i).toNat l))) (m := 2) (by omega)) (gd_at vl_ pn197) (gd_other (x := numV (List.drop (a).toNat (List.take (i).toNat l))) (m := 4) (by omega))
        clear hb190
        refine WX.rw (t := 6) (v := .int .i64 (List.length (v ++ [numV (List.drop (a).toNat (List.take (i).toNat l))]) : Int)) (congrArg (Value.int .i64) (show ((v.length : Int) + 1) = (List.length (v ++ [numV (List.drop (a).toNat (List.take (i).toNat l))]) : Int) from by simp)) (k := ?_)
        refine WX.round (i + 1, i + 1, (v ++ [numV (List.drop (a).toNat (List.take (i).toNat l))])) (by show (l.length + 1 - (i + 1)).toNat < (l.length + 1 - i).toNat; omega) ⟨(by kernel_rfl), (by kernel_rfl), (by kernel_rfl), (by kernel_rfl), (by kernel_rfl), (by kernel_rfl), trivial⟩ ⟨K, hb15, hb196, (by omega), (by omega), (by omega), (by omega), (ptJ_step hj a0 a1 (by omega) (by omega) (by omega) (fun q_ => by omega) (numR_pos.1 (by omega))), (by simp; omega)⟩
    have ph188 := ne_of_beq_false h188
    refine bsplit ((v.length : Int) == 4) (fun h198 => ?_) (fun h198 => ?_)
    · have ph198 := eq_of_beq h198
      refine WL.rw (t := 50) (v := .int .i64 4) (congrArg (Value.int .i64) (eq_of_beq h198)) (k := ?_)
      refine WL.op (d := 56) (.pointer (some ⟨b7, 4, none⟩)) (k := ?_)
      refine WL.store (v := .int .i64 (numR (List.drop a.toNat (List.take i.toNat l)))) (i := 4) (cs' := #[.int .i64 ((List.getD v 0 0 : Nat) : Int), .int .i64 ((List.getD v 1 0 : Nat) : Int), .int .i64 ((List.getD v 2 0 : Nat) : Int), .int .i64 ((List.getD v 3 0 : Nat) : Int), .int .i64 (numR (List.drop a.toNat (List.take i.toNat l)))]) hb16 (k := fun w199 hb200 k201 => ?_)
      replace hb15 := k201.heap hb15 n13
      replace K := K.trans' k201 (fun i hi e => absurd (e ▸ hi) (Nat.not_lt.2 z12))
      clear hb16
      refine WL.nil ?_
      refine WX.seqN ?_
      refine WC.seq ?_
      refine WC.seq ?_
      refine WC.region ?_
      refine WL.op (d := 57) (.int .i64 (v.length : Int)) (k := ?_)
      refine WL.rw (t := 57) (v := .int .i64 4) (congrArg (Value.int .i64) (eq_of_beq h198)) (k := ?_)
      refine WL.op (d := 58) (.pointer (some ⟨b7, 4, none⟩)) (k := ?_)
      refine WL.load (v := .int .i64 (numR (List.drop a.toNat (List.take i.toNat l)))) (ld1 (T := 2) (i := 4) hb200) (k := ?_)
      refine WL.op (d := 60) (.bool (decide ((numR (List.drop a.toNat (List.take i.toNat l))) < 0))) (k := ?_)
      refine WL.nil ?_
      refine WX.seqN ?_
      refine WC.cond (b := decide ((numR (List.drop a.toNat (List.take i.toNat l))) < 0)) (ht := fun h202 => ?_) (hf := fun h202 => ?_)
      · have ph202 := of_decide_eq_true h202
        refine WC.seq ?_
        refine WC.region ?_
        refine WL.op (d := 61) (.agg #[.int .i64 0, .int .i64 0, .int .i64 0, .int .i64 0, .int .i64 0]) (k := ?_)
        refine WL.store (v := .agg #[.int .i64 0, .int .i64 0, .int .i64 0, .int .i64 0, .int .i64 0]) (i := 0) (cs' := #[.int .i64 0, .int .i64 0, .int .i64 0, .int .i64 0, .int .i64 0]) hb15 (k := fun w203 hb204 k205 => ?_)
        replace hb200 := k205.heap hb200 (Ne.symm n13)
        replace K := K.trans' k205 (fun i hi e => absurd (e ▸ hi) (Nat.not_lt.2 z6))
        clear hb15
        refine WL.op (d := 3) (.bool false) (k := ?_)
        refine WL.nil ?_
        refine WX.seqN ?_
        refine WC.ret ?_
        refine WX.seqR ?_
        refine WX.blockR ?_
        refine WX.seqR ?_
        refine WX.seqR ?_
        refine WX.blockR ?_
        refine WX.seqR ?_
        refine WX.ret (rs := [.cell 2 29, .tmp 3]) [.agg #[.int .i64 0, .int .i64 0, .int .i64 0, .int .i64 0, .int .i64 0], .bool false] (.tuple #[.agg #[.int .i64 0, .int .i64 0, .int .i64 0, .int .i64 0, .int .i64 0], .bool false]) ⟨⟨_, (by kernel_rfl), ldN (T := 29) (i := 0) (m := 5) (l := [.int .i64 0, .int .i64 0, .int .i64 0, .int .i64 0, .int .i64 0]) hb204⟩, (by kernel_rfl), trivial⟩ (k := ?_)
        obtain ⟨e1_, e2_⟩ := task_no (s := l) (ptJ_no hj a0 a1 (by omega) (by omega) (.inr (.inr (fun k_ => absurd (numR_pos.2 k_) (by omega)))))
        exact ⟨by rw [e1_, e2_]; first | done | rfl, K⟩
      · have ph202 := of_decide_eq_false h202
        refine WC.skip ?_
        refine WX.seqN ?_
        refine WC.seq ?_
        refine WC.region ?_
        refine WL.op (d := 62) (.int .i64 (v.length : Int)) (k := ?_)
        refine WL.opE (d := 63) (.int .i64 (IntKind.i64.wrap ((v.length : Int) + 1))) (v := .int .i64 ((v.length : Int) + 1)) (congrArg (Value.int .i64) (IntWalk.i64_in _ (by omega))) (k := ?_)
        refine WL.op (d := 6) (.int .i64 ((v.length : Int) + 1)) (k := ?_)
        refine WL.nil ?_
        refine WX.seqN ?_
        refine WC.region ?_
        refine WL.op (d := 64) (.int .i64 i) (k := ?_)
        refine WL.opE (d := 65) (.int .i64 (IntKind.i64.wrap (i + 1))) (v := .int .i64 (i + 1)) (congrArg (Value.int .i64) (IntWalk.i64_in _ (by omega))) (k := ?_)
        refine WL.op (d := 5) (.int .i64 (i + 1)) (k := ?_)
        refine WL.nil ?_
        refine WX.blockN ?_
        refine WX.seqN ?_
        refine WC.region ?_
        refine WL.op (d := 14) (.int .i64 i) (k := ?_)
        refine WL.opE (d := 15) (.int .i64 (IntKind.i64.wrap (i + 1))) (v := .int .i64 (i + 1)) (congrArg (Value.int .i64) (IntWalk.i64_in _ (by omega))) (k := ?_)
        refine WL.op (d := 7) (.int .i64 (i + 1)) (k := ?_)
        refine WL.nil ?_
        have pn207 : numP (List.drop (a).toNat (List.take (i).toNat l)) := numR_pos.1 (by omega)
        have vl_ : v.length = 4 := by omega
        have hb206 := cells5 hb200 (gd_other (x := numV (List.drop (a).toNat (List.take (i).toNat l))) (m := 0) (by omega)) (gd_other (x := numV (List.drop (a).toNat (List.take (i).toNat l))) (m := 1) (by omega)) (gd_other (x := numV (List.drop (a).toNat (List.take (i).toNat l))) (m := 2) (by omega)) (gd_other (x := numV (List.drop (a).toNat (List.take (i).toNat l))) (m := 3) (by omega)) (gd_at vl_ pn207)
        clear hb200
        refine WX.rw (t := 6) (v := .int .i64 (List.length (v ++ [numV (List.drop (a).toNat (List.take (i).toNat l))]) : Int)) (congrArg (Value.int .i64) (show ((v.length : Int) + 1) = (List.length (v ++ [numV (List.drop (a).toNat (List.take (i).toNat l))]) : Int) from by simp)) (k := ?_)
        refine WX.round (i + 1, i + 1, (v ++ [numV (List.drop (a).toNat (List.take (i).toNat l))])) (by show (l.length + 1 - (i + 1)).toNat < (l.length + 1 - i).toNat; omega) ⟨(by kernel_rfl), (by kernel_rfl), (by kernel_rfl), (by kernel_rfl), (by kernel_rfl), (by kernel_rfl), trivial⟩ ⟨K, hb15, hb206, (by omega), (by omega), (by omega), (by omega), (ptJ_step hj a0 a1 (by omega) (by omega) (by omega) (fun q_ => by omega) (numR_pos.1 (by omega))), (by simp; omega)⟩
    have ph198 := ne_of_beq_false h198
    exfalso; omega
  · have ph17 := of_decide_eq_false h17
    refine WC.exit ?_
    refine WX.seqE ?_
    refine WX.seqE ?_
    refine WX.blockE ?_
    refine WX.seqN ?_
    refine WC.seq ?_
    refine WC.region ?_
    refine WL.op (d := 66) (.pointer (some ⟨b7, 0, none⟩)) (k := ?_)
    refine WL.load (v := .int .i64 ((List.getD v 0 0 : Nat) : Int)) (ld1 (T := 2) (i := 0) hb16) (k := ?_)
    refine WL.op (d := 68) (.pointer (some ⟨b7, 1, none⟩)) (k := ?_)
    refine WL.load (v := .int .i64 ((List.getD v 1 0 : Nat) : Int)) (ld1 (T := 2) (i := 1) hb16) (k := ?_)
    refine WL.op (d := 70) (.pointer (some ⟨b7, 2, none⟩)) (k := ?_)
    refine WL.load (v := .int .i64 ((List.getD v 2 0 : Nat) : Int)) (ld1 (T := 2) (i := 2) hb16) (k := ?_)
    refine WL.op (d := 72) (.pointer (some ⟨b7, 3, none⟩)) (k := ?_)
    refine WL.load (v := .int .i64 ((List.getD v 3 0 : Nat) : Int)) (ld1 (T := 2) (i := 3) hb16) (k := ?_)
    refine WL.op (d := 74) (.pointer (some ⟨b7, 4, none⟩)) (k := ?_)
    refine WL.load (v := .int .i64 ((List.getD v 4 0 : Nat) : Int)) (ld1 (T := 2) (i := 4) hb16) (k := ?_)
    refine WL.op (d := 76) (.agg #[.int .i64 ((List.getD v 0 0 : Nat) : Int), .int .i64 ((List.getD v 1 0 : Nat) : Int), .int .i64 ((List.getD v 2 0 : Nat) : Int), .int .i64 ((List.getD v 3 0 : Nat) : Int), .int .i64 ((List.getD v 4 0 : Nat) : Int)]) (k := ?_)
    refine WL.new (d := 8) (T := 29) #[.int .i64 0, .int .i64 0, .int .i64 0, .int .i64 0, .int .i64 0] (k := fun b208 w209 g210 hb211 k212 => ?_)
    have z213 := Nat.le_trans K.size g210
    have n214 : b1 ≠ b208 := Nat.ne_of_lt (Nat.lt_of_lt_of_le (lt_of_heap hb15) g210)
    have n215 : b7 ≠ b208 := Nat.ne_of_lt (Nat.lt_of_lt_of_le (lt_of_heap hb16) g210)
    replace hb15 := k212.heap hb15 id
    replace hb16 := k212.heap hb16 id
    replace K := K.trans (k212.any _)
    refine WL.store (v := .agg #[.int .i64 ((List.getD v 0 0 : Nat) : Int), .int .i64 ((List.getD v 1 0 : Nat) : Int), .int .i64 ((List.getD v 2 0 : Nat) : Int), .int .i64 ((List.getD v 3 0 : Nat) : Int), .int .i64 ((List.getD v 4 0 : Nat) : Int)]) (i := 0) (cs' := #[.int .i64 ((List.getD v 0 0 : Nat) : Int), .int .i64 ((List.getD v 1 0 : Nat) : Int), .int .i64 ((List.getD v 2 0 : Nat) : Int), .int .i64 ((List.getD v 3 0 : Nat) : Int), .int .i64 ((List.getD v 4 0 : Nat) : Int)]) hb211 (k := fun w216 hb217 k218 => ?_)
    replace hb15 := k218.heap hb15 n214
    replace hb16 := k218.heap hb16 n215
    replace K := K.trans' k218 (fun i hi e => absurd (e ▸ hi) (Nat.not_lt.2 z213))
    clear hb211
    refine WL.nil ?_
    refine WX.seqN ?_
    refine WC.seq ?_
    refine WC.region ?_
    refine WL.load (v := .agg #[.int .i64 ((List.getD v 0 0 : Nat) : Int), .int .i64 ((List.getD v 1 0 : Nat) : Int), .int .i64 ((List.getD v 2 0 : Nat) : Int), .int .i64 ((List.getD v 3 0 : Nat) : Int), .int .i64 ((List.getD v 4 0 : Nat) : Int)]) (ldN (T := 29) (i := 0) (m := 5) (l := [.int .i64 ((List.getD v 0 0 : Nat) : Int), .int .i64 ((List.getD v 1 0 : Nat) : Int), .int .i64 ((List.getD v 2 0 : Nat) : Int), .int .i64 ((List.getD v 3 0 : Nat) : Int), .int .i64 ((List.getD v 4 0 : Nat) : Int)]) hb217) (k := ?_)
    refine WL.callG (d := 78) (f := 32) (args := #[.agg #[.int .i64 ((List.getD v 0 0 : Nat) : Int), .int .i64 ((List.getD v 1 0 : Nat) : Int), .int .i64 ((List.getD v 2 0 : Nat) : Int), .int .i64 ((List.getD v 3 0 : Nat) : Int), .int .i64 ((List.getD v 4 0 : Nat) : Int)]]) (u09Check_c (⟨((List.getD v 0 0 : Nat) : Int), ((List.getD v 1 0 : Nat) : Int), ((List.getD v 2 0 : Nat) : Int), ((List.getD v 3 0 : Nat) : Int), ((List.getD v 4 0 : Nat) : Int)⟩ : GTask) w216) (k := fun e_ w219 h_ => ⟨.bool (decide (GTask.ok (⟨((List.getD v 0 0 : Nat) : Int), ((List.getD v 1 0 : Nat) : Int), ((List.getD v 2 0 : Nat) : Int), ((List.getD v 3 0 : Nat) : Int), ((List.getD v 4 0 : Nat) : Int)⟩ : GTask))), h_.1, ?_⟩)
    have k220 := h_.2; clear h_
    replace hb15 := k220.heap hb15 id
    replace hb16 := k220.heap hb16 id
    replace hb217 := k220.heap hb217 id
    replace K := K.trans (k220.any _)
    refine WL.op (d := 9) (.bool (decide (GTask.ok (⟨((List.getD v 0 0 : Nat) : Int), ((List.getD v 1 0 : Nat) : Int), ((List.getD v 2 0 : Nat) : Int), ((List.getD v 3 0 : Nat) : Int), ((List.getD v 4 0 : Nat) : Int)⟩ : GTask)))) (k := ?_)
    refine WL.nil ?_
    refine WX.seqN ?_
    refine WC.seq ?_
    refine WC.seq ?_
    refine WC.region ?_
    refine WL.op (d := 79) (.int .i64 (v.length : Int)) (k := ?_)
    refine WL.op (d := 80) (.bool ((v.length : Int) != 5)) (k := ?_)
    refine WL.op (d := 81) (.bool ((v.length : Int) != 5)) (k := ?_)
    refine bsplit ((v.length : Int) != 5) (fun h221 => ?_) (fun h221 => ?_)
    · have ph221 := bne_iff_ne.1 h221
      refine WL.rw (t := 81) (v := .bool true) (congrArg Value.bool h221) (k := ?_)
      refine WL.skip (d := 82) (k := ?_)
      refine WL.skip (d := 83) (k := ?_)
      refine WL.op (d := 84) (.bool true) (k := ?_)
      refine WL.nil ?_
      refine WX.seqN ?_
      refine WC.condT (k := ?_)
      refine WC.seq ?_
      refine WC.region ?_
      refine WL.op (d := 85) (.agg #[.int .i64 0, .int .i64 0, .int .i64 0, .int .i64 0, .int .i64 0]) (k := ?_)
      refine WL.store (v := .agg #[.int .i64 0, .int .i64 0, .int .i64 0, .int .i64 0, .int .i64 0]) (i := 0) (cs' := #[.int .i64 0, .int .i64 0, .int .i64 0, .int .i64 0, .int .i64 0]) hb15 (k := fun w222 hb223 k224 => ?_)
      replace hb16 := k224.heap hb16 (Ne.symm n13)
      replace hb217 := k224.heap hb217 (Ne.symm n214)
      replace K := K.trans' k224 (fun i hi e => absurd (e ▸ hi) (Nat.not_lt.2 z6))
      clear hb15
      refine WL.op (d := 3) (.bool false) (k := ?_)
      refine WL.nil ?_
      refine WX.seqN ?_
      refine WC.ret ?_
      refine WX.seqR ?_
      refine WX.ret (rs := [.cell 2 29, .tmp 3]) [.agg #[.int .i64 0, .int .i64 0, .int .i64 0, .int .i64 0, .int .i64 0], .bool false] (.tuple #[.agg #[.int .i64 0, .int .i64 0, .int .i64 0, .int .i64 0, .int .i64 0], .bool false]) ⟨⟨_, (by kernel_rfl), ldN (T := 29) (i := 0) (m := 5) (l := [.int .i64 0, .int .i64 0, .int .i64 0, .int .i64 0, .int .i64 0]) hb223⟩, (by kernel_rfl), trivial⟩ (k := ?_)
      have sp_ := (pt_spec l).2 v (ptJ_done hj (by omega))
      obtain ⟨e1_, e2_⟩ := task_no (s := l) (sp_.1 (by omega))
      exact ⟨by rw [e1_, e2_]; first | done | rfl, K⟩
    have ph221 := of_bne_false h221
    refine WL.rw (t := 81) (v := .bool false) (congrArg Value.bool h221) (k := ?_)
    refine WL.op (d := 82) (.bool (decide (GTask.ok (⟨((List.getD v 0 0 : Nat) : Int), ((List.getD v 1 0 : Nat) : Int), ((List.getD v 2 0 : Nat) : Int), ((List.getD v 3 0 : Nat) : Int), ((List.getD v 4 0 : Nat) : Int)⟩ : GTask)))) (k := ?_)
    refine WL.op (d := 83) (.bool (!(decide (GTask.ok (⟨((List.getD v 0 0 : Nat) : Int), ((List.getD v 1 0 : Nat) : Int), ((List.getD v 2 0 : Nat) : Int), ((List.getD v 3 0 : Nat) : Int), ((List.getD v 4 0 : Nat) : Int)⟩ : GTask))))) (k := ?_)
    refine WL.op (d := 84) (.bool (!(decide (GTask.ok (⟨((List.getD v 0 0 : Nat) : Int), ((List.getD v 1 0 : Nat) : Int), ((List.getD v 2 0 : Nat) : Int), ((List.getD v 3 0 : Nat) : Int), ((List.getD v 4 0 : Nat) : Int)⟩ : GTask))))) (k := ?_)
    refine WL.nil ?_
    refine WX.seqN ?_
    refine WC.cond (b := !(decide (GTask.ok (⟨((List.getD v 0 0 : Nat) : Int), ((List.getD v 1 0 : Nat) : Int), ((List.getD v 2 0 : Nat) : Int), ((List.getD v 3 0 : Nat) : Int), ((List.getD v 4 0 : Nat) : Int)⟩ : GTask)))) (ht := fun h225 => ?_) (hf := fun h225 => ?_)
    · have h226 : (decide (GTask.ok (⟨((List.getD v 0 0 : Nat) : Int), ((List.getD v 1 0 : Nat) : Int), ((List.getD v 2 0 : Nat) : Int), ((List.getD v 3 0 : Nat) : Int), ((List.getD v 4 0 : Nat) : Int)⟩ : GTask))) = false := Bool.not_inj (y := false) h225
      have ph226 := of_decide_eq_false h226
      refine WC.seq ?_
      refine WC.region ?_
      refine WL.op (d := 85) (.agg #[.int .i64 0, .int .i64 0, .int .i64 0, .int .i64 0, .int .i64 0]) (k := ?_)
      refine WL.store (v := .agg #[.int .i64 0, .int .i64 0, .int .i64 0, .int .i64 0, .int .i64 0]) (i := 0) (cs' := #[.int .i64 0, .int .i64 0, .int .i64 0, .int .i64 0, .int .i64 0]) hb15 (k := fun w227 hb228 k229 => ?_)
      replace hb16 := k229.heap hb16 (Ne.symm n13)
      replace hb217 := k229.heap hb217 (Ne.symm n214)
      replace K := K.trans' k229 (fun i hi e => absurd (e ▸ hi) (Nat.not_lt.2 z6))
      clear hb15
      refine WL.op (d := 3) (.bool false) (k := ?_)
      refine WL.nil ?_
      refine WX.seqN ?_
      refine WC.ret ?_
      refine WX.seqR ?_
      refine WX.ret (rs := [.cell 2 29, .tmp 3]) [.agg #[.int .i64 0, .int .i64 0, .int .i64 0, .int .i64 0, .int .i64 0], .bool false] (.tuple #[.agg #[.int .i64 0, .int .i64 0, .int .i64 0, .int .i64 0, .int .i64 0], .bool false]) ⟨⟨_, (by kernel_rfl), ldN (T := 29) (i := 0) (m := 5) (l := [.int .i64 0, .int .i64 0, .int .i64 0, .int .i64 0, .int .i64 0]) hb228⟩, (by kernel_rfl), trivial⟩ (k := ?_)
      have sp_ := (pt_spec l).2 v (ptJ_done hj (by omega))
      obtain ⟨e3_, e4_⟩ := sp_.2 (by omega)
      rw [e3_] at e4_
      obtain ⟨e1_, e2_⟩ := task_no (s := l) (fun k_ => ph226 (e4_.1 k_))
      exact ⟨by rw [e1_, e2_]; first | done | rfl, K⟩
    · have h230 : (decide (GTask.ok (⟨((List.getD v 0 0 : Nat) : Int), ((List.getD v 1 0 : Nat) : Int), ((List.getD v 2 0 : Nat) : Int), ((List.getD v 3 0 : Nat) : Int), ((List.getD v 4 0 : Nat) : Int)⟩ : GTask))) = true := Bool.not_inj (y := true) h225
      have ph230 := of_decide_eq_true h230
      refine WC.skip ?_
      refine WX.seqN ?_
      refine WC.seq ?_
      refine WC.region ?_
      refine WL.load (v := .agg #[.int .i64 ((List.getD v 0 0 : Nat) : Int), .int .i64 ((List.getD v 1 0 : Nat) : Int), .int .i64 ((List.getD v 2 0 : Nat) : Int), .int .i64 ((List.getD v 3 0 : Nat) : Int), .int .i64 ((List.getD v 4 0 : Nat) : Int)]) (ldN (T := 29) (i := 0) (m := 5) (l := [.int .i64 ((List.getD v 0 0 : Nat) : Int), .int .i64 ((List.getD v 1 0 : Nat) : Int), .int .i64 ((List.getD v 2 0 : Nat) : Int), .int .i64 ((List.getD v 3 0 : Nat) : Int), .int .i64 ((List.getD v 4 0 : Nat) : Int)]) hb217) (k := ?_)
      refine WL.store (v := .agg #[.int .i64 ((List.getD v 0 0 : Nat) : Int), .int .i64 ((List.getD v 1 0 : Nat) : Int), .int .i64 ((List.getD v 2 0 : Nat) : Int), .int .i64 ((List.getD v 3 0 : Nat) : Int), .int .i64 ((List.getD v 4 0 : Nat) : Int)]) (i := 0) (cs' := #[.int .i64 ((List.getD v 0 0 : Nat) : Int), .int .i64 ((List.getD v 1 0 : Nat) : Int), .int .i64 ((List.getD v 2 0 : Nat) : Int), .int .i64 ((List.getD v 3 0 : Nat) : Int), .int .i64 ((List.getD v 4 0 : Nat) : Int)]) hb15 (k := fun w231 hb232 k233 => ?_)
      replace hb16 := k233.heap hb16 (Ne.symm n13)
      replace hb217 := k233.heap hb217 (Ne.symm n214)
      replace K := K.trans' k233 (fun i hi e => absurd (e ▸ hi) (Nat.not_lt.2 z6))
      clear hb15
      refine WL.op (d := 3) (.bool true) (k := ?_)
      refine WL.nil ?_
      refine WX.seqN ?_
      refine WC.ret ?_
      refine WX.ret (rs := [.cell 2 29, .tmp 3]) [.agg #[.int .i64 ((List.getD v 0 0 : Nat) : Int), .int .i64 ((List.getD v 1 0 : Nat) : Int), .int .i64 ((List.getD v 2 0 : Nat) : Int), .int .i64 ((List.getD v 3 0 : Nat) : Int), .int .i64 ((List.getD v 4 0 : Nat) : Int)], .bool true] (.tuple #[.agg #[.int .i64 ((List.getD v 0 0 : Nat) : Int), .int .i64 ((List.getD v 1 0 : Nat) : Int), .int .i64 ((List.getD v 2 0 : Nat) : Int), .int .i64 ((List.getD v 3 0 : Nat) : Int), .int .i64 ((List.getD v 4 0 : Nat) : Int)], .bool true]) ⟨⟨_, (by kernel_rfl), ldN (T := 29) (i := 0) (m := 5) (l := [.int .i64 ((List.getD v 0 0 : Nat) : Int), .int .i64 ((List.getD v 1 0 : Nat) : Int), .int .i64 ((List.getD v 2 0 : Nat) : Int), .int .i64 ((List.getD v 3 0 : Nat) : Int), .int .i64 ((List.getD v 4 0 : Nat) : Int)]) hb232⟩, (by kernel_rfl), trivial⟩ (k := ?_)
      have sp_ := (pt_spec l).2 v (ptJ_done hj (by omega))
      obtain ⟨e3_, e4_⟩ := sp_.2 (by omega)
      rw [e3_] at e4_
      have ht_ := e4_.2 ph230
      exact ⟨by rw [taskV, if_pos ht_, decide_eq_true ht_, e3_]; first | done | rfl, K⟩
set_option maxRecDepth 100000 in
set_option maxHeartbeats 4000000 in
theorem u25words_c {l : List UInt8} (hl : l.length ≤ 1000000) (w : World) : Calls Tryz.prog 24 #[.string ⟨l.toArray⟩] w fun e w' => ∃ A c, e = .returned (.slice A (wordsL l).length c) ∧ OwAt strC 1 9 A c (wordsL l) w' ∧ Adds w w' ∧ (∀ i, blk A = some i → w.heap.size ≤ i) := by
  have K : Keeps (fun _ => False) w w := Keeps.refl _ w
  refine Calls.start Tryz.func24 rfl (by kernel_rfl) ?_
  refine WC.seq ?_
  refine WC.region ?_
  refine WL.op (d := 2) (.slice none 0 0) (k := ?_)
  refine WL.nil ?_
  refine WX.seqN ?_
  refine WC.seq ?_
  refine WC.region ?_
  refine WL.op (d := 3) (.slice none 0 0) (k := ?_)
  refine WL.nil ?_
  refine WX.seqN ?_
  refine WC.seq ?_
  refine WC.region ?_
  refine WL.op (d := 4) (.int .i64 0) (k := ?_)
  refine WL.nil ?_
  refine WX.seqN ?_
  refine WC.seq ?_
  refine WC.seq ?_
  refine WC.region ?_
  refine WL.op (d := 5) (.int .i64 0) (k := ?_)
  refine WL.nil ?_
  refine WX.seqN ?_
  refine WC.block ?_
  refine WC.loop (ι := Int × Int × Words × (Option Addr) × Nat) (fun (⟨i, a, out, Ao, co⟩ : Int × Int × Words × (Option Addr) × Nat) => [(0, .string ⟨(l).toArray⟩), (2, .slice none 0 0), (5, .int .i64 i), (4, .int .i64 a), (3, .slice Ao out.length co)]) (fun (⟨i, a, out, Ao, co⟩ : Int × Int × Words × (Option Addr) × Nat) (w_ : World) => (Keeps (fun _ => False) w w_) ∧ (OwAt strC 1 9 Ao co out w_) ∧ (∀ i, blk Ao = some i → w.heap.size ≤ i) ∧ (0 ≤ i) ∧ (i ≤ l.length + 1) ∧ (0 ≤ a) ∧ (a ≤ i) ∧ (wdJ l i a out) ∧ ((out.length : Int) ≤ i)) (fun (⟨i, a, out, Ao, co⟩ : Int × Int × Words × (Option Addr) × Nat) => (l.length + 1 - i).toNat) (0, 0, [], none, 0) ⟨(by kernel_rfl), (by kernel_rfl), (by kernel_rfl), (by kernel_rfl), (by kernel_rfl), trivial⟩ ⟨K, OwAt.nil, (by simp [blk]), Int.le_refl 0, (by omega), Int.le_refl 0, Int.le_refl 0, (wdJ_zero l), (by simp)⟩ ?_
  rintro ⟨i, a, out, Ao, co⟩ w1 ⟨K, hb2, ol3, i0, i1, a0, a1, hj, hn⟩
  refine WC.seq ?_
  refine WC.seq ?_
  refine WC.region ?_
  refine WL.op (d := 6) (.int .i64 i) (k := ?_)
  refine WL.op (d := 7) (.string ⟨(l).toArray⟩) (k := ?_)
  refine WL.op (d := 8) (.int .i64 (l.length : Int)) (k := ?_)
  refine WL.op (d := 9) (.bool (decide (i ≤ (l.length : Int)))) (k := ?_)
  refine WL.nil ?_
  refine WX.seqN ?_
  refine WC.cond (b := decide (i ≤ (l.length : Int))) (ht := fun h4 => ?_) (hf := fun h4 => ?_)
  · have ph4 := of_decide_eq_true h4
    refine WC.skip ?_
    refine WX.seqN ?_
    refine WC.seq ?_
    refine WC.block ?_
    refine WC.seq ?_
    refine WC.region ?_
    refine WL.op (d := 12) (.int .i64 i) (k := ?_)
    refine WL.op (d := 13) (.string ⟨(l).toArray⟩) (k := ?_)
    refine WL.op (d := 14) (.int .i64 (l.length : Int)) (k := ?_)
    refine WL.op (d := 15) (.bool (i == (l.length : Int))) (k := ?_)
    refine WL.op (d := 16) (.bool (i == (l.length : Int))) (k := ?_)
    refine bsplit (i == (l.length : Int)) (fun h5 => ?_) (fun h5 => ?_)
    · have ph5 := eq_of_beq h5
      refine WL.rw (t := 16) (v := .bool true) (congrArg Value.bool h5) (k := ?_)
      refine WL.skip (d := 17) (k := ?_)
      refine WL.skip (d := 18) (k := ?_)
      refine WL.skip (d := 19) (k := ?_)
      refine WL.skip (d := 20) (k := ?_)
      refine WL.op (d := 21) (.bool true) (k := ?_)
      refine WL.nil ?_
      refine WX.seqN ?_
      refine WC.condT (k := ?_)
      refine WC.seq ?_
      refine WC.seq ?_
      refine WC.region ?_
      refine WL.op (d := 22) (.int .i64 i) (k := ?_)
      refine WL.op (d := 23) (.int .i64 a) (k := ?_)
      refine WL.op (d := 24) (.bool (decide (i > a))) (k := ?_)
      refine WL.nil ?_
      refine WX.seqN ?_
      refine WC.cond (b := decide (i > a)) (ht := fun h6 => ?_) (hf := fun h6 => ?_)
      · have ph6 := of_decide_eq_true h6
        refine WC.region ?_
        refine WL.op (d := 25) (.slice Ao out.length co) (k := ?_)
        refine WL.op (d := 26) (.string ⟨(l).toArray⟩) (k := ?_)
        refine WL.op (d := 27) (.int .i64 a) (k := ?_)
        refine WL.op (d := 28) (.int .i64 i) (k := ?_)
        refine WL.cut (d := 29) (vx := .string ⟨(l).toArray⟩) (lo' := (some (.int .i64 a))) (hi' := (some (.int .i64 i))) (mx' := none) (v := .string ⟨(List.drop a.toNat (List.take i.toNat l)).toArray⟩) (run_cut (P := Tryz.prog) (w := w1) (lo := (some (.int .i64 a))) (hi := (some (.int .i64 i))) (T := 9) (a := a.toNat) (b := i.toNat) (l := l) (by kernel_rfl) (.inr ⟨_, _, rfl, by omega⟩) (.inr ⟨_, _, rfl, by omega⟩) (by first | omega | (simp; omega)) (by first | omega | (simp; omega))) (k := ?_)
        refine WL.newF (d := 30) (T := 9) #[.string ⟨(List.drop a.toNat (List.take i.toNat l)).toArray⟩] (fun b => .slice (some ⟨b, 0, none⟩) 1 1) (k := fun b7 w8 g9 hb10 k11 => ?_)
        have z12 := Nat.le_trans K.size g9
        have n13 := OwAt.off_new hb2 g9
        replace hb2 := hb2.adds k11
        replace K := K.trans (k11.any _)
        refine WL.append (d := 31) (T := 43) (cl := strC) (xs := out) (ys := [List.drop a.toNat (List.take i.toNat l)]) (c := 1) ekStr hb2 (SlAt.of_lit (ys := [List.drop a.toNat (List.take i.toNat l)]) ekStr hb10 (by kernel_rfl)) (by first | omega | (simp; omega)) (k := fun A14 c15 w16 ho17 k18 n19 => ?_)
        have ol20 := olink_step ol3 K n19
        replace K := K.trans' k18 (fun i hi e => absurd hi (Nat.not_lt.2 (ol3 i e)))
        clear hb2
        refine WL.op (d := 3) (.slice A14 ((out ++ [List.drop a.toNat (List.take i.toNat l)]).length) c15) (k := ?_)
        refine WL.nil ?_
        refine WX.seqN ?_
        refine WC.region ?_
        refine WL.op (d := 32) (.int .i64 i) (k := ?_)
        refine WL.opE (d := 33) (.int .i64 (IntKind.i64.wrap (i + 1))) (v := .int .i64 (i + 1)) (congrArg (Value.int .i64) (IntWalk.i64_in _ (by omega))) (k := ?_)
        refine WL.op (d := 4) (.int .i64 (i + 1)) (k := ?_)
        refine WL.nil ?_
        refine WX.blockN ?_
        refine WX.seqN ?_
        refine WC.region ?_
        refine WL.op (d := 10) (.int .i64 i) (k := ?_)
        refine WL.opE (d := 11) (.int .i64 (IntKind.i64.wrap (i + 1))) (v := .int .i64 (i + 1)) (congrArg (Value.int .i64) (IntWalk.i64_in _ (by omega))) (k := ?_)
        refine WL.op (d := 5) (.int .i64 (i + 1)) (k := ?_)
        refine WL.nil ?_
        refine WX.round (i + 1, i + 1, out ++ [List.drop a.toNat (List.take i.toNat l)], A14, c15) (by show (l.length + 1 - (i + 1)).toNat < (l.length + 1 - i).toNat; omega) ⟨(by kernel_rfl), (by kernel_rfl), (by kernel_rfl), (by kernel_rfl), (by kernel_rfl), trivial⟩ ⟨K, ho17, ol20, (by omega), (by omega), (by omega), (by omega), (wdJ_y hj a0 a1 (by omega) (by omega) ph6), (by first | omega | (simp; omega))⟩
      · have ph6 := of_decide_eq_false h6
        refine WC.skip ?_
        refine WX.seqN ?_
        refine WC.region ?_
        refine WL.op (d := 32) (.int .i64 i) (k := ?_)
        refine WL.opE (d := 33) (.int .i64 (IntKind.i64.wrap (i + 1))) (v := .int .i64 (i + 1)) (congrArg (Value.int .i64) (IntWalk.i64_in _ (by omega))) (k := ?_)
        refine WL.op (d := 4) (.int .i64 (i + 1)) (k := ?_)
        refine WL.nil ?_
        refine WX.blockN ?_
        refine WX.seqN ?_
        refine WC.region ?_
        refine WL.op (d := 10) (.int .i64 i) (k := ?_)
        refine WL.opE (d := 11) (.int .i64 (IntKind.i64.wrap (i + 1))) (v := .int .i64 (i + 1)) (congrArg (Value.int .i64) (IntWalk.i64_in _ (by omega))) (k := ?_)
        refine WL.op (d := 5) (.int .i64 (i + 1)) (k := ?_)
        refine WL.nil ?_
        refine WX.round (i + 1, i + 1, out, Ao, co) (by show (l.length + 1 - (i + 1)).toNat < (l.length + 1 - i).toNat; omega) ⟨(by kernel_rfl), (by kernel_rfl), (by kernel_rfl), (by kernel_rfl), (by kernel_rfl), trivial⟩ ⟨K, hb2, ol3, (by omega), (by omega), (by omega), (by omega), (wdJ_n hj a0 a1 (by omega) (by omega) ph6), (by first | omega | (simp; omega))⟩
    have ph5 := ne_of_beq_false h5
    refine WL.rw (t := 16) (v := .bool false) (congrArg Value.bool h5) (k := ?_)
    refine WL.op (d := 17) (.string ⟨(l).toArray⟩) (k := ?_)
    refine WL.op (d := 18) (.int .i64 i) (k := ?_)
    refine WL.strAt (T := 9) (l := l) (i := i) (kk := .i64) (d := 19) (by omega) (by first | omega | (simp; omega)) (by kernel_rfl) (by kernel_rfl) (by kernel_rfl) (by kernel_rfl) (by kernel_rfl) ?_
    have ub21 := u8_lt (List.getD l (i).toNat 0)
    refine WL.op (d := 20) (.bool (((List.getD l (i).toNat 0).toNat : Int) == 32)) (k := ?_)
    refine WL.op (d := 21) (.bool (((List.getD l (i).toNat 0).toNat : Int) == 32)) (k := ?_)
    refine WL.nil ?_
    refine WX.seqN ?_
    refine WC.cond (b := ((List.getD l (i).toNat 0).toNat : Int) == 32) (ht := fun h22 => ?_) (hf := fun h22 => ?_)
    · have ph22 := eq_of_beq h22
      refine WC.seq ?_
      refine WC.seq ?_
      refine WC.region ?_
      refine WL.op (d := 22) (.int .i64 i) (k := ?_)
      refine WL.op (d := 23) (.int .i64 a) (k := ?_)
      refine WL.op (d := 24) (.bool (decide (i > a))) (k := ?_)
      refine WL.nil ?_
      refine WX.seqN ?_
      refine WC.cond (b := decide (i > a)) (ht := fun h23 => ?_) (hf := fun h23 => ?_)
      · have ph23 := of_decide_eq_true h23
        refine WC.region ?_
        refine WL.op (d := 25) (.slice Ao out.length co) (k := ?_)
        refine WL.op (d := 26) (.string ⟨(l).toArray⟩) (k := ?_)
        refine WL.op (d := 27) (.int .i64 a) (k := ?_)
        refine WL.op (d := 28) (.int .i64 i) (k := ?_)
        refine WL.cut (d := 29) (vx := .string ⟨(l).toArray⟩) (lo' := (some (.int .i64 a))) (hi' := (some (.int .i64 i))) (mx' := none) (v := .string ⟨(List.drop a.toNat (List.take i.toNat l)).toArray⟩) (run_cut (P := Tryz.prog) (w := w1) (lo := (some (.int .i64 a))) (hi := (some (.int .i64 i))) (T := 9) (a := a.toNat) (b := i.toNat) (l := l) (by kernel_rfl) (.inr ⟨_, _, rfl, by omega⟩) (.inr ⟨_, _, rfl, by omega⟩) (by first | omega | (simp; omega)) (by first | omega | (simp; omega))) (k := ?_)
        refine WL.newF (d := 30) (T := 9) #[.string ⟨(List.drop a.toNat (List.take i.toNat l)).toArray⟩] (fun b => .slice (some ⟨b, 0, none⟩) 1 1) (k := fun b24 w25 g26 hb27 k28 => ?_)
        have z29 := Nat.le_trans K.size g26
        have n30 := OwAt.off_new hb2 g26
        replace hb2 := hb2.adds k28
        replace K := K.trans (k28.any _)
        refine WL.append (d := 31) (T := 43) (cl := strC) (xs := out) (ys := [List.drop a.toNat (List.take i.toNat l)]) (c := 1) ekStr hb2 (SlAt.of_lit (ys := [List.drop a.toNat (List.take i.toNat l)]) ekStr hb27 (by kernel_rfl)) (by first | omega | (simp; omega)) (k := fun A31 c32 w33 ho34 k35 n36 => ?_)
        have ol37 := olink_step ol3 K n36
        replace K := K.trans' k35 (fun i hi e => absurd hi (Nat.not_lt.2 (ol3 i e)))
        clear hb2
        refine WL.op (d := 3) (.slice A31 ((out ++ [List.drop a.toNat (List.take i.toNat l)]).length) c32) (k := ?_)
        refine WL.nil ?_
        refine WX.seqN ?_
        refine WC.region ?_
        refine WL.op (d := 32) (.int .i64 i) (k := ?_)
        refine WL.opE (d := 33) (.int .i64 (IntKind.i64.wrap (i + 1))) (v := .int .i64 (i + 1)) (congrArg (Value.int .i64) (IntWalk.i64_in _ (by omega))) (k := ?_)
        refine WL.op (d := 4) (.int .i64 (i + 1)) (k := ?_)
        refine WL.nil ?_
        refine WX.blockN ?_
        refine WX.seqN ?_
        refine WC.region ?_
        refine WL.op (d := 10) (.int .i64 i) (k := ?_)
        refine WL.opE (d := 11) (.int .i64 (IntKind.i64.wrap (i + 1))) (v := .int .i64 (i + 1)) (congrArg (Value.int .i64) (IntWalk.i64_in _ (by omega))) (k := ?_)
        refine WL.op (d := 5) (.int .i64 (i + 1)) (k := ?_)
        refine WL.nil ?_
        refine WX.round (i + 1, i + 1, out ++ [List.drop a.toNat (List.take i.toNat l)], A31, c32) (by show (l.length + 1 - (i + 1)).toNat < (l.length + 1 - i).toNat; omega) ⟨(by kernel_rfl), (by kernel_rfl), (by kernel_rfl), (by kernel_rfl), (by kernel_rfl), trivial⟩ ⟨K, ho34, ol37, (by omega), (by omega), (by omega), (by omega), (wdJ_y hj a0 a1 (by omega) (by omega) ph23), (by first | omega | (simp; omega))⟩
      · have ph23 := of_decide_eq_false h23
        refine WC.skip ?_
        refine WX.seqN ?_
        refine WC.region ?_
        refine WL.op (d := 32) (.int .i64 i) (k := ?_)
        refine WL.opE (d := 33) (.int .i64 (IntKind.i64.wrap (i + 1))) (v := .int .i64 (i + 1)) (congrArg (Value.int .i64) (IntWalk.i64_in _ (by omega))) (k := ?_)
        refine WL.op (d := 4) (.int .i64 (i + 1)) (k := ?_)
        refine WL.nil ?_
        refine WX.blockN ?_
        refine WX.seqN ?_
        refine WC.region ?_
        refine WL.op (d := 10) (.int .i64 i) (k := ?_)
        refine WL.opE (d := 11) (.int .i64 (IntKind.i64.wrap (i + 1))) (v := .int .i64 (i + 1)) (congrArg (Value.int .i64) (IntWalk.i64_in _ (by omega))) (k := ?_)
        refine WL.op (d := 5) (.int .i64 (i + 1)) (k := ?_)
        refine WL.nil ?_
        refine WX.round (i + 1, i + 1, out, Ao, co) (by show (l.length + 1 - (i + 1)).toNat < (l.length + 1 - i).toNat; omega) ⟨(by kernel_rfl), (by kernel_rfl), (by kernel_rfl), (by kernel_rfl), (by kernel_rfl), trivial⟩ ⟨K, hb2, ol3, (by omega), (by omega), (by omega), (by omega), (wdJ_n hj a0 a1 (by omega) (by omega) ph23), (by first | omega | (simp; omega))⟩
    · have ph22 := ne_of_beq_false h22
      refine WC.skip ?_
      refine WX.blockN ?_
      refine WX.seqN ?_
      refine WC.region ?_
      refine WL.op (d := 10) (.int .i64 i) (k := ?_)
      refine WL.opE (d := 11) (.int .i64 (IntKind.i64.wrap (i + 1))) (v := .int .i64 (i + 1)) (congrArg (Value.int .i64) (IntWalk.i64_in _ (by omega))) (k := ?_)
      refine WL.op (d := 5) (.int .i64 (i + 1)) (k := ?_)
      refine WL.nil ?_
      refine WX.round (i + 1, a, out, Ao, co) (by show (l.length + 1 - (i + 1)).toNat < (l.length + 1 - i).toNat; omega) ⟨(by kernel_rfl), (by kernel_rfl), (by kernel_rfl), (by kernel_rfl), (by kernel_rfl), trivial⟩ ⟨K, hb2, ol3, (by omega), (by omega), (by omega), (by omega), (wdJ_skip hj a0 a1 (by omega) (by omega)), (by first | omega | (simp; omega))⟩
  · have ph4 := of_decide_eq_false h4
    refine WC.exit ?_
    refine WX.seqE ?_
    refine WX.seqE ?_
    refine WX.blockE ?_
    refine WX.seqN ?_
    refine WC.seq ?_
    refine WC.region ?_
    refine WL.op (d := 34) (.slice Ao out.length co) (k := ?_)
    refine WL.op (d := 2) (.slice Ao out.length co) (k := ?_)
    refine WL.nil ?_
    refine WX.seqN ?_
    refine WC.ret ?_
    refine WX.ret (rs := [.tmp 2]) [.slice Ao out.length co] (.slice Ao out.length co) ⟨(by kernel_rfl), trivial⟩ (k := ?_)
    have e_ := wdJ_done hj (by omega)
    rw [e_] at hb2 ⊢
    exact ⟨_, _, rfl, hb2, K, ol3⟩
end Go.Proofs.YtoeinhlmkpgjhaaGreatDoor
namespace Go.Proofs.YtoeinhlmkpgjhaaGreatDoor
open Go.RowKit
set_option linter.unusedVariables false
set_option linter.unusedSimpArgs false
set_option maxRecDepth 100000 in
set_option maxHeartbeats 4000000 in
theorem u25fates_c {A : Option Addr} {cp : Nat} {ws : Words} {w : World} (hA : SlAt strC 1 9 A ws w) (hn : ws.length ≤ 1000000) (hx : ∀ x ∈ ws, x.length ≤ 1000000) : Calls Tryz.prog 50 #[.slice A ws.length cp] w (GotR (kCrash :: ws) w) := by
  have K : Keeps (fun _ => False) w w := Keeps.refl _ w
  refine Calls.start Tryz.func50 rfl (by kernel_rfl) ?_
  refine WC.seq ?_
  refine WC.region ?_
  refine WL.new (d := 2) (T := 53) (Value.cells (gotV 0 GOp.zero 0 0 0 none 0 0 false)) (k := fun b1 w2 g3 hb4 k5 => ?_)
  have z6 := Nat.le_trans K.size g3
  replace K := K.trans (k5.any _)
  refine WL.nil ?_
  refine WX.seqN ?_
  refine WC.seq ?_
  refine WC.region ?_
  refine WL.op (d := 7) (.agg #[.int .i64 8, .int .i64 0, .int .i64 0, .int .i64 0, .int .i64 0, .int .i64 0, .int .i64 0, .bool false, .int .i64 0, .int .i64 0, .int .i64 0, .int .i64 0, .int .i64 0, .int .i64 0, .slice none 0 0]) (k := ?_)
  refine WL.new (d := 3) (T := 39) #[.int .i64 0, .int .i64 0, .int .i64 0, .int .i64 0, .int .i64 0, .int .i64 0, .int .i64 0, .bool false, .int .i64 0, .int .i64 0, .int .i64 0, .int .i64 0, .int .i64 0, .int .i64 0, .slice none 0 0] (k := fun b7 w8 g9 hb10 k11 => ?_)
  have z12 := Nat.le_trans K.size g9
  have n13 : b1 ≠ b7 := Nat.ne_of_lt (Nat.lt_of_lt_of_le (lt_of_heap hb4) g9)
  replace hb4 := k11.heap hb4 id
  replace K := K.trans (k11.any _)
  refine WL.store (v := .agg #[.int .i64 8, .int .i64 0, .int .i64 0, .int .i64 0, .int .i64 0, .int .i64 0, .int .i64 0, .bool false, .int .i64 0, .int .i64 0, .int .i64 0, .int .i64 0, .int .i64 0, .int .i64 0, .slice none 0 0]) (i := 0) (cs' := #[.int .i64 8, .int .i64 0, .int .i64 0, .int .i64 0, .int .i64 0, .int .i64 0, .int .i64 0, .bool false, .int .i64 0, .int .i64 0, .int .i64 0, .int .i64 0, .int .i64 0, .int .i64 0, .slice none 0 0]) hb10 (k := fun w14 hb15 k16 => ?_)
  replace hb4 := k16.heap hb4 n13
  replace K := K.trans' k16 (fun i hi e => absurd (e ▸ hi) (Nat.not_lt.2 z12))
  clear hb10
  refine WL.nil ?_
  refine WX.seqN ?_
  refine WC.seq ?_
  refine WC.seq ?_
  refine WC.region ?_
  refine WL.op (d := 4) (.int .i64 0) (k := ?_)
  refine WL.nil ?_
  refine WX.seqN ?_
  refine WC.block ?_
  refine WC.loop (ι := Int × (List GFate) × (Option Addr) × Nat) (fun (⟨i, out, Ao, co⟩ : Int × (List GFate) × (Option Addr) × Nat) => [(0, .slice A ws.length cp), (2, .pointer (some ⟨b1, 0, none⟩)), (7, .agg #[.int .i64 8, .int .i64 0, .int .i64 0, .int .i64 0, .int .i64 0, .int .i64 0, .int .i64 0, .bool false, .int .i64 0, .int .i64 0, .int .i64 0, .int .i64 0, .int .i64 0, .int .i64 0, .slice none 0 0]), (3, .pointer (some ⟨b7, 0, none⟩)), (4, .int .i64 i)]) (fun (⟨i, out, Ao, co⟩ : Int × (List GFate) × (Option Addr) × Nat) (w_ : World) => (Keeps (fun _ => False) w w_) ∧ (w_.heap[b1]? = some (.cells (Value.cells (gotV 0 GOp.zero 0 0 0 none 0 0 false)) 53 (0, 0))) ∧ (w_.heap[b7]? = some (.cells #[.int .i64 8, .int .i64 0, .int .i64 0, .int .i64 0, .int .i64 0, .int .i64 0, .int .i64 0, .bool false, .int .i64 0, .int .i64 0, .int .i64 0, .int .i64 0, .int .i64 0, .int .i64 0, .slice Ao out.length co] 39 (0, 0))) ∧ (OwAt fateC 2 72 Ao co out w_) ∧ (∀ i, blk Ao = some i → w.heap.size ≤ i) ∧ (0 ≤ i) ∧ (i ≤ ws.length) ∧ (fatJ ws (ws.drop i.toNat) out) ∧ ((out.length : Int) ≤ i)) (fun (⟨i, out, Ao, co⟩ : Int × (List GFate) × (Option Addr) × Nat) => (ws.length - i).toNat) (0, [], none, 0) ⟨(by kernel_rfl), (by kernel_rfl), (by kernel_rfl), (by kernel_rfl), (by kernel_rfl), trivial⟩ ⟨K, hb4, hb15, OwAt.nil, (by simp [blk]), Int.le_refl 0, (by omega), (fatJ_zero ws), (by simp)⟩ ?_
  rintro ⟨i, out, Ao, co⟩ w17 ⟨K, hb18, hb19, hb20, ol21, i0, i1, hj, hl⟩
  refine WC.seq ?_
  refine WC.seq ?_
  refine WC.region ?_
  refine WL.op (d := 8) (.int .i64 i) (k := ?_)
  refine WL.op (d := 9) (.slice A ws.length cp) (k := ?_)
  refine WL.op (d := 10) (.int .i64 (ws.length : Int)) (k := ?_)
  refine WL.op (d := 11) (.bool (decide (i < (ws.length : Int)))) (k := ?_)
  refine WL.nil ?_
  refine WX.seqN ?_
  refine WC.cond (b := decide (i < (ws.length : Int))) (ht := fun h22 => ?_) (hf := fun h22 => ?_)
  · have ph22 := of_decide_eq_true h22
    refine WC.skip ?_
    refine WX.seqN ?_
    refine WC.seq ?_
    refine WC.block ?_
    refine WC.seq ?_
    refine WC.region ?_
    refine WL.op (d := 14) (.agg #[.int .i64 0, .int .i64 0]) (k := ?_)
    refine WL.new (d := 5) (T := 72) #[.int .i64 0, .int .i64 0] (k := fun b23 w24 g25 hb26 k27 => ?_)
    have z28 := Nat.le_trans K.size g25
    have n29 : b1 ≠ b23 := Nat.ne_of_lt (Nat.lt_of_lt_of_le (lt_of_heap hb18) g25)
    have n30 : b7 ≠ b23 := Nat.ne_of_lt (Nat.lt_of_lt_of_le (lt_of_heap hb19) g25)
    have n31 := OwAt.off_new hb20 g25
    replace hb18 := k27.heap hb18 id
    replace hb19 := k27.heap hb19 id
    replace hb20 := hb20.adds k27
    replace K := K.trans (k27.any _)
    refine WL.store (v := .agg #[.int .i64 0, .int .i64 0]) (i := 0) (cs' := #[.int .i64 0, .int .i64 0]) hb26 (k := fun w32 hb33 k34 => ?_)
    replace hb18 := k34.heap hb18 n29
    replace hb19 := k34.heap hb19 n30
    replace hb20 := hb20.keeps k34 (fun i hi e => (n31) (e ▸ hi))
    replace K := K.trans' k34 (fun i hi e => absurd (e ▸ hi) (Nat.not_lt.2 z28))
    clear hb26
    refine WL.nil ?_
    refine WX.seqN ?_
    refine WC.seq ?_
    refine WC.seq ?_
    refine WC.region ?_
    refine WL.op (d := 15) (.slice A ws.length cp) (k := ?_)
    refine WL.op (d := 16) (.int .i64 i) (k := ?_)
    obtain ⟨b35, o36, r37, hr38, hA39, he40⟩ := SlAt.at hA (i := i) (by omega) (by omega)
    refine WL.rw (t := 15) (v := .slice (some ⟨b35, o36, none⟩) ws.length cp) (congrArg (fun a => Value.slice a ws.length cp) hA39) (k := ?_)
    have wx41 := hx _ (List.mem_of_getElem? hr38)
    refine WL.idx (T := 43) (E := 9) (m := 1) (b := b35) (o := o36) (len := ws.length) (cap := cp) (i := i) (kk := .i64) (d := 17) (by omega) (by omega) (k := ?_)
    refine WL.rw (t := 15) (v := .slice A ws.length cp) (congrArg (fun a => Value.slice a ws.length cp) (Eq.symm hA39)) (k := ?_)
    refine WL.load (v := .string ⟨(r37).toArray⟩) ((he40.adds K).ld0 (T := 9)) (k := ?_)
    refine WL.nil ?_
    refine WX.seqN ?_
    refine WC.block ?_
    refine WC.seq ?_
    refine WC.region ?_
    refine WL.opE (d := 21) (.bool (ByteArray.toList ⟨(r37).toArray⟩ == ByteArray.toList ⟨([108, 111, 115, 116]).toArray⟩)) (v := .bool (decide (r37 = [108, 111, 115, 116]))) (str_eql _ _) (k := ?_)
    refine WL.op (d := 20) (.bool (decide (r37 = [108, 111, 115, 116]))) (k := ?_)
    refine WL.nil ?_
    refine WX.seqN ?_
    refine WC.cond (b := decide (r37 = [108, 111, 115, 116])) (ht := fun h42 => ?_) (hf := fun h42 => ?_)
    · have ph42 := of_decide_eq_true h42
      refine WC.skip ?_
      refine WX.blockN ?_
      refine WX.seqN ?_
      refine WC.region ?_
      refine WL.op (d := 43) (.pointer (some ⟨b7, 14, none⟩)) (k := ?_)
      refine WL.load (v := .slice Ao out.length co) (ld1 (T := 37) (i := 14) hb19) (k := ?_)
      refine WL.load (v := .agg #[.int .i64 0, .int .i64 0]) (ldN (T := 72) (i := 0) (m := 2) (l := [.int .i64 0, .int .i64 0]) hb33) (k := ?_)
      refine WL.newF (d := 46) (T := 72) #[.int .i64 0, .int .i64 0] (fun b => .slice (some ⟨b, 0, none⟩) 1 1) (k := fun b43 w44 g45 hb46 k47 => ?_)
      have z48 := Nat.le_trans K.size g45
      have n49 : b1 ≠ b43 := Nat.ne_of_lt (Nat.lt_of_lt_of_le (lt_of_heap hb18) g45)
      have n50 : b7 ≠ b43 := Nat.ne_of_lt (Nat.lt_of_lt_of_le (lt_of_heap hb19) g45)
      have n51 := OwAt.off_new hb20 g45
      have n52 : b23 ≠ b43 := Nat.ne_of_lt (Nat.lt_of_lt_of_le (lt_of_heap hb33) g45)
      replace hb18 := k47.heap hb18 id
      replace hb19 := k47.heap hb19 id
      replace hb20 := hb20.adds k47
      replace hb33 := k47.heap hb33 id
      replace K := K.trans (k47.any _)
      refine WL.append (d := 47) (T := 37) (cl := fateC) (xs := out) (ys := [(⟨0, 0⟩ : GFate)]) (c := 1) ekFate hb20 (SlAt.of_lit (ys := [(⟨0, 0⟩ : GFate)]) ekFate hb46 (by kernel_rfl)) (by first | omega | (simp; omega)) (k := fun A53 c54 w55 ho56 k57 n58 => ?_)
      have ol59 := olink_step ol21 K n58
      have n60 := off_step n58 n31 (lt_of_heap hb33)
      replace hb18 := k57.heap hb18 (hb20.offT hb18 (by decide))
      replace hb19 := k57.heap hb19 (hb20.offT hb19 (by decide))
      replace hb33 := k57.heap hb33 n31
      replace K := K.trans' k57 (fun i hi e => absurd hi (Nat.not_lt.2 (ol21 i e)))
      clear hb20
      refine WL.op (d := 48) (.pointer (some ⟨b7, 14, none⟩)) (k := ?_)
      refine WL.store (v := .slice A53 ((out ++ [(⟨0, 0⟩ : GFate)]).length) c54) (i := 14) (cs' := #[.int .i64 8, .int .i64 0, .int .i64 0, .int .i64 0, .int .i64 0, .int .i64 0, .int .i64 0, .bool false, .int .i64 0, .int .i64 0, .int .i64 0, .int .i64 0, .int .i64 0, .int .i64 0, .slice A53 ((out ++ [(⟨0, 0⟩ : GFate)]).length) c54]) hb19 (k := fun w61 hb62 k63 => ?_)
      replace hb18 := k63.heap hb18 n13
      replace ho56 := ho56.keeps k63 (fun i hi e => (ho56.offT hb19 (by decide)) (e ▸ hi))
      replace hb33 := k63.heap hb33 (Ne.symm n30)
      replace K := K.trans' k63 (fun i hi e => absurd (e ▸ hi) (Nat.not_lt.2 z12))
      clear hb19
      refine WL.nil ?_
      refine WX.blockN ?_
      refine WX.seqN ?_
      refine WC.region ?_
      refine WL.op (d := 12) (.int .i64 i) (k := ?_)
      refine WL.opE (d := 13) (.int .i64 (IntKind.i64.wrap (i + 1))) (v := .int .i64 (i + 1)) (congrArg (Value.int .i64) (IntWalk.i64_in _ (by omega))) (k := ?_)
      refine WL.op (d := 4) (.int .i64 (i + 1)) (k := ?_)
      refine WL.nil ?_
      refine WX.round (i + 1, out ++ [(⟨0, 0⟩ : GFate)], A53, c54) (by show (ws.length - (i + 1)).toNat < (ws.length - i).toNat; omega) ⟨(by kernel_rfl), (by kernel_rfl), (by kernel_rfl), (by kernel_rfl), (by kernel_rfl), trivial⟩ ⟨K, hb18, hb62, ho56, ol59, (by omega), (by omega), (fj_lost hj i0 hr38 ph42), (by simp; omega)⟩
    · have ph42 := of_decide_eq_false h42
      refine WC.seq ?_
      refine WC.region ?_
      refine WL.opE (d := 23) (.bool (ByteArray.toList ⟨(r37).toArray⟩ == ByteArray.toList ⟨([107, 101, 112, 116]).toArray⟩)) (v := .bool (decide (r37 = [107, 101, 112, 116]))) (str_eql _ _) (k := ?_)
      refine WL.op (d := 22) (.bool (decide (r37 = [107, 101, 112, 116]))) (k := ?_)
      refine WL.nil ?_
      refine WX.seqN ?_
      refine WC.cond (b := decide (r37 = [107, 101, 112, 116])) (ht := fun h64 => ?_) (hf := fun h64 => ?_)
      · have ph64 := of_decide_eq_true h64
        refine WC.region ?_
        refine WL.op (d := 24) (.pointer (some ⟨b23, 0, none⟩)) (k := ?_)
        refine WL.store (v := .int .i64 1) (i := 0) (cs' := #[.int .i64 1, .int .i64 0]) hb33 (k := fun w65 hb66 k67 => ?_)
        replace hb18 := k67.heap hb18 n29
        replace hb19 := k67.heap hb19 n30
        replace hb20 := hb20.keeps k67 (fun i hi e => (n31) (e ▸ hi))
        replace K := K.trans' k67 (fun i hi e => absurd (e ▸ hi) (Nat.not_lt.2 z28))
        clear hb33
        refine WL.nil ?_
        refine WX.blockN ?_
        refine WX.seqN ?_
        refine WC.region ?_
        refine WL.op (d := 43) (.pointer (some ⟨b7, 14, none⟩)) (k := ?_)
        refine WL.load (v := .slice Ao out.length co) (ld1 (T := 37) (i := 14) hb19) (k := ?_)
        refine WL.load (v := .agg #[.int .i64 1, .int .i64 0]) (ldN (T := 72) (i := 0) (m := 2) (l := [.int .i64 1, .int .i64 0]) hb66) (k := ?_)
        refine WL.newF (d := 46) (T := 72) #[.int .i64 1, .int .i64 0] (fun b => .slice (some ⟨b, 0, none⟩) 1 1) (k := fun b68 w69 g70 hb71 k72 => ?_)
        have z73 := Nat.le_trans K.size g70
        have n74 : b1 ≠ b68 := Nat.ne_of_lt (Nat.lt_of_lt_of_le (lt_of_heap hb18) g70)
        have n75 : b7 ≠ b68 := Nat.ne_of_lt (Nat.lt_of_lt_of_le (lt_of_heap hb19) g70)
        have n76 := OwAt.off_new hb20 g70
        have n77 : b23 ≠ b68 := Nat.ne_of_lt (Nat.lt_of_lt_of_le (lt_of_heap hb66) g70)
        replace hb18 := k72.heap hb18 id
        replace hb19 := k72.heap hb19 id
        replace hb20 := hb20.adds k72
        replace hb66 := k72.heap hb66 id
        replace K := K.trans (k72.any _)
        refine WL.append (d := 47) (T := 37) (cl := fateC) (xs := out) (ys := [(⟨1, 0⟩ : GFate)]) (c := 1) ekFate hb20 (SlAt.of_lit (ys := [(⟨1, 0⟩ : GFate)]) ekFate hb71 (by kernel_rfl)) (by first | omega | (simp; omega)) (k := fun A78 c79 w80 ho81 k82 n83 => ?_)
        have ol84 := olink_step ol21 K n83
        have n85 := off_step n83 n31 (lt_of_heap hb66)
        replace hb18 := k82.heap hb18 (hb20.offT hb18 (by decide))
        replace hb19 := k82.heap hb19 (hb20.offT hb19 (by decide))
        replace hb66 := k82.heap hb66 n31
        replace K := K.trans' k82 (fun i hi e => absurd hi (Nat.not_lt.2 (ol21 i e)))
        clear hb20
        refine WL.op (d := 48) (.pointer (some ⟨b7, 14, none⟩)) (k := ?_)
        refine WL.store (v := .slice A78 ((out ++ [(⟨1, 0⟩ : GFate)]).length) c79) (i := 14) (cs' := #[.int .i64 8, .int .i64 0, .int .i64 0, .int .i64 0, .int .i64 0, .int .i64 0, .int .i64 0, .bool false, .int .i64 0, .int .i64 0, .int .i64 0, .int .i64 0, .int .i64 0, .int .i64 0, .slice A78 ((out ++ [(⟨1, 0⟩ : GFate)]).length) c79]) hb19 (k := fun w86 hb87 k88 => ?_)
        replace hb18 := k88.heap hb18 n13
        replace ho81 := ho81.keeps k88 (fun i hi e => (ho81.offT hb19 (by decide)) (e ▸ hi))
        replace hb66 := k88.heap hb66 (Ne.symm n30)
        replace K := K.trans' k88 (fun i hi e => absurd (e ▸ hi) (Nat.not_lt.2 z12))
        clear hb19
        refine WL.nil ?_
        refine WX.blockN ?_
        refine WX.seqN ?_
        refine WC.region ?_
        refine WL.op (d := 12) (.int .i64 i) (k := ?_)
        refine WL.opE (d := 13) (.int .i64 (IntKind.i64.wrap (i + 1))) (v := .int .i64 (i + 1)) (congrArg (Value.int .i64) (IntWalk.i64_in _ (by omega))) (k := ?_)
        refine WL.op (d := 4) (.int .i64 (i + 1)) (k := ?_)
        refine WL.nil ?_
        refine WX.round (i + 1, out ++ [(⟨1, 0⟩ : GFate)], A78, c79) (by show (ws.length - (i + 1)).toNat < (ws.length - i).toNat; omega) ⟨(by kernel_rfl), (by kernel_rfl), (by kernel_rfl), (by kernel_rfl), (by kernel_rfl), trivial⟩ ⟨K, hb18, hb87, ho81, ol84, (by omega), (by omega), (fj_kept hj i0 hr38 ph64), (by simp; omega)⟩
      · have ph64 := of_decide_eq_false h64
        refine WC.seq ?_
        refine WC.region ?_
        refine WL.opE (d := 26) (.bool (ByteArray.toList ⟨(r37).toArray⟩ == ByteArray.toList ⟨([116, 111, 114, 110]).toArray⟩)) (v := .bool (decide (r37 = [116, 111, 114, 110]))) (str_eql _ _) (k := ?_)
        refine WL.op (d := 25) (.bool (decide (r37 = [116, 111, 114, 110]))) (k := ?_)
        refine WL.nil ?_
        refine WX.seqN ?_
        refine WC.cond (b := decide (r37 = [116, 111, 114, 110])) (ht := fun h89 => ?_) (hf := fun h89 => ?_)
        · have ph89 := of_decide_eq_true h89
          refine WC.seq ?_
          refine WC.seq ?_
          refine WC.region ?_
          refine WL.op (d := 27) (.int .i64 i) (k := ?_)
          refine WL.opE (d := 28) (.int .i64 (IntKind.i64.wrap (i + 1))) (v := .int .i64 (i + 1)) (congrArg (Value.int .i64) (IntWalk.i64_in _ (by omega))) (k := ?_)
          refine WL.op (d := 29) (.slice A ws.length cp) (k := ?_)
          refine WL.op (d := 30) (.int .i64 (ws.length : Int)) (k := ?_)
          refine WL.op (d := 31) (.bool ((i + 1) == (ws.length : Int))) (k := ?_)
          refine WL.nil ?_
          refine WX.seqN ?_
          refine WC.cond (b := (i + 1) == (ws.length : Int)) (ht := fun h90 => ?_) (hf := fun h90 => ?_)
          · have ph90 := eq_of_beq h90
            refine WC.seq ?_
            refine WC.region ?_
            refine WL.op (d := 32) (gotV 0 GOp.zero 0 0 0 none 0 0 false) (k := ?_)
            refine WL.store (v := gotV 0 GOp.zero 0 0 0 none 0 0 false) (i := 0) (cs' := (Value.cells (gotV 0 GOp.zero 0 0 0 none 0 0 false))) hb18 (k := fun w91 hb92 k93 => ?_)
            replace hb19 := k93.heap hb19 (Ne.symm n13)
            replace hb20 := hb20.keeps k93 (fun i hi e => (hb20.offT hb18 (by decide)) (e ▸ hi))
            replace hb33 := k93.heap hb33 (Ne.symm n29)
            replace K := K.trans' k93 (fun i hi e => absurd (e ▸ hi) (Nat.not_lt.2 z6))
            clear hb18
            refine WL.nil ?_
            refine WX.seqN ?_
            refine WC.ret ?_
            refine WX.seqR ?_
            refine WX.blockR ?_
            refine WX.seqR ?_
            refine WX.blockR ?_
            refine WX.seqR ?_
            refine WX.seqR ?_
            refine WX.blockR ?_
            refine WX.seqR ?_
            refine WX.ret (rs := [.cell 2 53]) [gotV 0 GOp.zero 0 0 0 none 0 0 false] (gotV 0 GOp.zero 0 0 0 none 0 0 false) ⟨⟨_, (by kernel_rfl), ldN (T := 53) (i := 0) (m := 16) (l := (Value.cells (gotV 0 GOp.zero 0 0 0 none 0 0 false)).toList) hb92⟩, trivial⟩ (k := ?_)
            exact ⟨(⟨⟨0, (⟨0, ⟨0, 0, 0, 0, 0⟩, false, 0, 0, 0⟩ : GOp), 0, 0, 0, []⟩, none, 0⟩ : GCmd), false, rfl, OwAt.nil, (by simp [blk]), (fatJ_qn (fj_cut hj i0 hr38 ph89 (by omega))), (by simp), K⟩
          · have ph90 := ne_of_beq_false h90
            refine WC.skip ?_
            refine WX.seqN ?_
            refine WC.seq ?_
            refine WC.region ?_
            refine WL.op (d := 33) (.int .i64 i) (k := ?_)
            refine WL.opE (d := 34) (.int .i64 (IntKind.i64.wrap (i + 1))) (v := .int .i64 (i + 1)) (congrArg (Value.int .i64) (IntWalk.i64_in _ (by omega))) (k := ?_)
            refine WL.op (d := 4) (.int .i64 (i + 1)) (k := ?_)
            refine WL.nil ?_
            refine WX.seqN ?_
            refine WC.seq ?_
            refine WC.region ?_
            refine WL.op (d := 35) (.slice A ws.length cp) (k := ?_)
            refine WL.op (d := 36) (.int .i64 (i + 1)) (k := ?_)
            obtain ⟨b94, o95, r96, hr97, hA98, he99⟩ := SlAt.at hA (i := i + 1) (by omega) (by omega)
            refine WL.rw (t := 35) (v := .slice (some ⟨b94, o95, none⟩) ws.length cp) (congrArg (fun a => Value.slice a ws.length cp) hA98) (k := ?_)
            have wx100 := hx _ (List.mem_of_getElem? hr97)
            refine WL.idx (T := 43) (E := 9) (m := 1) (b := b94) (o := o95) (len := ws.length) (cap := cp) (i := i + 1) (kk := .i64) (d := 37) (by omega) (by omega) (k := ?_)
            refine WL.rw (t := 35) (v := .slice A ws.length cp) (congrArg (fun a => Value.slice a ws.length cp) (Eq.symm hA98)) (k := ?_)
            refine WL.load (v := .string ⟨(r96).toArray⟩) ((he99.adds K).ld0 (T := 9)) (k := ?_)
            refine WL.callG (d := 39) (f := 31) (args := #[.string ⟨(r96).toArray⟩]) (u25number_c (l := r96) (by first | omega | (simp; omega)) w32) (k := fun e_ w102 h_ => ⟨.int .i64 (numR r96), h_.1, ?_⟩)
            have k103 := h_.2; clear h_
            replace hb18 := k103.heap hb18 id
            replace hb19 := k103.heap hb19 id
            replace hb20 := hb20.adds k103
            replace hb33 := k103.heap hb33 id
            replace K := K.trans (k103.any _)
            have nr101 := numR_rng r96
            refine WL.op (d := 6) (.int .i64 (numR r96)) (k := ?_)
            refine WL.nil ?_
            refine WX.seqN ?_
            refine WC.seq ?_
            refine WC.region ?_
            refine WL.op (d := 40) (.pointer (some ⟨b23, 0, none⟩)) (k := ?_)
            refine WL.store (v := .int .i64 2) (i := 0) (cs' := #[.int .i64 2, .int .i64 0]) hb33 (k := fun w104 hb105 k106 => ?_)
            replace hb18 := k106.heap hb18 n29
            replace hb19 := k106.heap hb19 n30
            replace hb20 := hb20.keeps k106 (fun i hi e => (n31) (e ▸ hi))
            replace K := K.trans' k106 (fun i hi e => absurd (e ▸ hi) (Nat.not_lt.2 z28))
            clear hb33
            refine WL.nil ?_
            refine WX.seqN ?_
            refine WC.region ?_
            refine WL.op (d := 41) (.int .i64 (numR r96)) (k := ?_)
            refine WL.op (d := 42) (.pointer (some ⟨b23, 1, none⟩)) (k := ?_)
            refine WL.store (v := .int .i64 (numR r96)) (i := 1) (cs' := #[.int .i64 2, .int .i64 (numR r96)]) hb105 (k := fun w107 hb108 k109 => ?_)
            replace hb18 := k109.heap hb18 n29
            replace hb19 := k109.heap hb19 n30
            replace hb20 := hb20.keeps k109 (fun i hi e => (n31) (e ▸ hi))
            replace K := K.trans' k109 (fun i hi e => absurd (e ▸ hi) (Nat.not_lt.2 z28))
            clear hb105
            refine WL.nil ?_
            refine WX.blockN ?_
            refine WX.seqN ?_
            refine WC.region ?_
            refine WL.op (d := 43) (.pointer (some ⟨b7, 14, none⟩)) (k := ?_)
            refine WL.load (v := .slice Ao out.length co) (ld1 (T := 37) (i := 14) hb19) (k := ?_)
            refine WL.load (v := .agg #[.int .i64 2, .int .i64 (numR r96)]) (ldN (T := 72) (i := 0) (m := 2) (l := [.int .i64 2, .int .i64 (numR r96)]) hb108) (k := ?_)
            refine WL.newF (d := 46) (T := 72) #[.int .i64 2, .int .i64 (numR r96)] (fun b => .slice (some ⟨b, 0, none⟩) 1 1) (k := fun b110 w111 g112 hb113 k114 => ?_)
            have z115 := Nat.le_trans K.size g112
            have n116 : b1 ≠ b110 := Nat.ne_of_lt (Nat.lt_of_lt_of_le (lt_of_heap hb18) g112)
            have n117 : b7 ≠ b110 := Nat.ne_of_lt (Nat.lt_of_lt_of_le (lt_of_heap hb19) g112)
            have n118 := OwAt.off_new hb20 g112
            have n119 : b23 ≠ b110 := Nat.ne_of_lt (Nat.lt_of_lt_of_le (lt_of_heap hb108) g112)
            replace hb18 := k114.heap hb18 id
            replace hb19 := k114.heap hb19 id
            replace hb20 := hb20.adds k114
            replace hb108 := k114.heap hb108 id
            replace K := K.trans (k114.any _)
            refine WL.append (d := 47) (T := 37) (cl := fateC) (xs := out) (ys := [(⟨2, (numR r96)⟩ : GFate)]) (c := 1) ekFate hb20 (SlAt.of_lit (ys := [(⟨2, (numR r96)⟩ : GFate)]) ekFate hb113 (by kernel_rfl)) (by first | omega | (simp; omega)) (k := fun A120 c121 w122 ho123 k124 n125 => ?_)
            have ol126 := olink_step ol21 K n125
            have n127 := off_step n125 n31 (lt_of_heap hb108)
            replace hb18 := k124.heap hb18 (hb20.offT hb18 (by decide))
            replace hb19 := k124.heap hb19 (hb20.offT hb19 (by decide))
            replace hb108 := k124.heap hb108 n31
            replace K := K.trans' k124 (fun i hi e => absurd hi (Nat.not_lt.2 (ol21 i e)))
            clear hb20
            refine WL.op (d := 48) (.pointer (some ⟨b7, 14, none⟩)) (k := ?_)
            refine WL.store (v := .slice A120 ((out ++ [(⟨2, (numR r96)⟩ : GFate)]).length) c121) (i := 14) (cs' := #[.int .i64 8, .int .i64 0, .int .i64 0, .int .i64 0, .int .i64 0, .int .i64 0, .int .i64 0, .bool false, .int .i64 0, .int .i64 0, .int .i64 0, .int .i64 0, .int .i64 0, .int .i64 0, .slice A120 ((out ++ [(⟨2, (numR r96)⟩ : GFate)]).length) c121]) hb19 (k := fun w128 hb129 k130 => ?_)
            replace hb18 := k130.heap hb18 n13
            replace ho123 := ho123.keeps k130 (fun i hi e => (ho123.offT hb19 (by decide)) (e ▸ hi))
            replace hb108 := k130.heap hb108 (Ne.symm n30)
            replace K := K.trans' k130 (fun i hi e => absurd (e ▸ hi) (Nat.not_lt.2 z12))
            clear hb19
            refine WL.nil ?_
            refine WX.blockN ?_
            refine WX.seqN ?_
            refine WC.region ?_
            refine WL.op (d := 12) (.int .i64 (i + 1)) (k := ?_)
            refine WL.opE (d := 13) (.int .i64 (IntKind.i64.wrap ((i + 1) + 1))) (v := .int .i64 ((i + 1) + 1)) (congrArg (Value.int .i64) (IntWalk.i64_in _ (by omega))) (k := ?_)
            refine WL.op (d := 4) (.int .i64 ((i + 1) + 1)) (k := ?_)
            refine WL.nil ?_
            refine WX.round (i + 1 + 1, out ++ [(⟨2, (numR r96)⟩ : GFate)], A120, c121) (by show (ws.length - (i + 1 + 1)).toNat < (ws.length - i).toNat; omega) ⟨(by kernel_rfl), (by kernel_rfl), (by kernel_rfl), (by kernel_rfl), (by kernel_rfl), trivial⟩ ⟨K, hb18, hb129, ho123, ol126, (by omega), (by omega), (fj_torn hj i0 hr38 ph89 hr97), (by simp; omega)⟩
        · have ph89 := of_decide_eq_false h89
          refine WC.seq ?_
          refine WC.region ?_
          refine WL.op (d := 19) (gotV 0 GOp.zero 0 0 0 none 0 0 false) (k := ?_)
          refine WL.store (v := gotV 0 GOp.zero 0 0 0 none 0 0 false) (i := 0) (cs' := (Value.cells (gotV 0 GOp.zero 0 0 0 none 0 0 false))) hb18 (k := fun w131 hb132 k133 => ?_)
          replace hb19 := k133.heap hb19 (Ne.symm n13)
          replace hb20 := hb20.keeps k133 (fun i hi e => (hb20.offT hb18 (by decide)) (e ▸ hi))
          replace hb33 := k133.heap hb33 (Ne.symm n29)
          replace K := K.trans' k133 (fun i hi e => absurd (e ▸ hi) (Nat.not_lt.2 z6))
          clear hb18
          refine WL.nil ?_
          refine WX.seqN ?_
          refine WC.ret ?_
          refine WX.blockR ?_
          refine WX.seqR ?_
          refine WX.blockR ?_
          refine WX.seqR ?_
          refine WX.seqR ?_
          refine WX.blockR ?_
          refine WX.seqR ?_
          refine WX.ret (rs := [.cell 2 53]) [gotV 0 GOp.zero 0 0 0 none 0 0 false] (gotV 0 GOp.zero 0 0 0 none 0 0 false) ⟨⟨_, (by kernel_rfl), ldN (T := 53) (i := 0) (m := 16) (l := (Value.cells (gotV 0 GOp.zero 0 0 0 none 0 0 false)).toList) hb132⟩, trivial⟩ (k := ?_)
          exact ⟨(⟨⟨0, (⟨0, ⟨0, 0, 0, 0, 0⟩, false, 0, 0, 0⟩ : GOp), 0, 0, 0, []⟩, none, 0⟩ : GCmd), false, rfl, OwAt.nil, (by simp [blk]), (fatJ_qn (fj_no hj i0 hr38 ph42 ph64 ph89)), (by simp), K⟩
  · have ph22 := of_decide_eq_false h22
    refine WC.exit ?_
    refine WX.seqE ?_
    refine WX.seqE ?_
    refine WX.blockE ?_
    refine WX.seqN ?_
    refine WC.seq ?_
    refine WC.region ?_
    refine WL.load (v := .agg #[.int .i64 8, .int .i64 0, .int .i64 0, .int .i64 0, .int .i64 0, .int .i64 0, .int .i64 0, .bool false, .int .i64 0, .int .i64 0, .int .i64 0, .int .i64 0, .int .i64 0, .int .i64 0, .slice Ao out.length co]) (ldN (T := 39) (i := 0) (m := 15) (l := [.int .i64 8, .int .i64 0, .int .i64 0, .int .i64 0, .int .i64 0, .int .i64 0, .int .i64 0, .bool false, .int .i64 0, .int .i64 0, .int .i64 0, .int .i64 0, .int .i64 0, .int .i64 0, .slice Ao out.length co]) hb19) (k := ?_)
    refine WL.op (d := 50) (gotV 8 GOp.zero 0 0 0 Ao out.length co true) (k := ?_)
    refine WL.store (v := gotV 8 GOp.zero 0 0 0 Ao out.length co true) (i := 0) (cs' := (Value.cells (gotV 8 GOp.zero 0 0 0 Ao out.length co true))) hb18 (k := fun w134 hb135 k136 => ?_)
    replace hb19 := k136.heap hb19 (Ne.symm n13)
    replace hb20 := hb20.keeps k136 (fun i hi e => (hb20.offT hb18 (by decide)) (e ▸ hi))
    replace K := K.trans' k136 (fun i hi e => absurd (e ▸ hi) (Nat.not_lt.2 z6))
    clear hb18
    refine WL.nil ?_
    refine WX.seqN ?_
    refine WC.ret ?_
    refine WX.ret (rs := [.cell 2 53]) [gotV 8 GOp.zero 0 0 0 Ao out.length co true] (gotV 8 GOp.zero 0 0 0 Ao out.length co true) ⟨⟨_, (by kernel_rfl), ldN (T := 53) (i := 0) (m := 16) (l := (Value.cells (gotV 8 GOp.zero 0 0 0 Ao out.length co true)).toList) hb135⟩, trivial⟩ (k := ?_)
    exact ⟨(⟨⟨8, (⟨0, ⟨0, 0, 0, 0, 0⟩, false, 0, 0, 0⟩ : GOp), 0, 0, 0, out⟩, Ao, co⟩ : GCmd), true, rfl, hb20, ol21, (fj_end hj (by omega)), (by simp only [List.length_cons]; omega), K⟩
end Go.Proofs.YtoeinhlmkpgjhaaGreatDoor
namespace Go.Proofs.YtoeinhlmkpgjhaaGreatDoor
open Go.RowKit
set_option linter.unusedVariables false
set_option linter.unusedSimpArgs false
set_option maxRecDepth 100000 in
set_option maxHeartbeats 4000000 in
theorem u25command_1 {A : Option Addr} {cp : Nat} {ws : Words} {w : World} (hA : SlAt strC 1 9 A ws w) (hn : ws.length ≤ 1000000) (hx : ∀ x ∈ ws, x.length ≤ 1000000) (h0 : 0 < ws.length) (hc1 : ws.length ≤ cp) (hc2 : cp ≤ 9223372036854775807) (hk : ws.length = 1) : Calls Tryz.prog 25 #[.slice A ws.length cp] w (GotR ws w) := by
  have K : Keeps (fun _ => False) w w := Keeps.refl _ w
  refine Calls.start Tryz.func25 rfl (by kernel_rfl) ?_
  refine WC.seq ?_
  refine WC.region ?_
  refine WL.new (d := 2) (T := 53) (Value.cells (gotV 0 GOp.zero 0 0 0 none 0 0 false)) (k := fun b1 w2 g3 hb4 k5 => ?_)
  have z6 := Nat.le_trans K.size g3
  replace K := K.trans (k5.any _)
  refine WL.nil ?_
  refine WX.seqN ?_
  refine WC.seq ?_
  refine WC.region ?_
  refine WL.newF (d := 9) (T := 2) #[.int .i64 (-1), .int .i64 (-1)] (fun b => .slice (some ⟨b, 0, none⟩) 2 2) (k := fun b7 w8 g9 hb10 k11 => ?_)
  have z12 := Nat.le_trans K.size g9
  have n13 : b1 ≠ b7 := Nat.ne_of_lt (Nat.lt_of_lt_of_le (lt_of_heap hb4) g9)
  replace hb4 := k11.heap hb4 id
  replace K := K.trans (k11.any _)
  refine WL.op (d := 3) (.slice (some ⟨b7, 0, none⟩) 2 2) (k := ?_)
  refine WL.nil ?_
  refine WX.seqN ?_
  refine WC.seq ?_
  refine WC.seq ?_
  have h14 : decide ((1 : Int) < (ws.length : Int)) = false := decide_eq_false (by omega)
  have h15 : decide ((2 : Int) < (ws.length : Int)) = false := decide_eq_false (by omega)
  refine WC.region ?_
  refine WL.op (d := 4) (.int .i64 0) (k := ?_)
  refine WL.nil ?_
  refine WX.seqN ?_
  refine WC.block ?_
  refine WC.rounds 3 ?_
  refine WC.seq ?_
  refine WC.seq ?_
  refine WC.region ?_
  refine WL.op (d := 10) (.int .i64 0) (k := ?_)
  refine WL.op (d := 11) (.bool true) (k := ?_)
  refine WL.op (d := 12) (.bool true) (k := ?_)
  refine WL.op (d := 13) (.int .i64 0) (k := ?_)
  refine WL.op (d := 14) (.int .i64 1) (k := ?_)
  refine WL.op (d := 15) (.slice A ws.length cp) (k := ?_)
  refine WL.op (d := 16) (.int .i64 (ws.length : Int)) (k := ?_)
  refine WL.op (d := 17) (.bool (decide ((1 : Int) < (ws.length : Int)))) (k := ?_)
  refine WL.op (d := 18) (.bool (decide ((1 : Int) < (ws.length : Int)))) (k := ?_)
  refine WL.nil ?_
  refine WX.seqN ?_
  refine WC.rw (t := 18) (v := .bool false) (congrArg Value.bool h14) (k := ?_)
  refine WC.condF (k := ?_)
  refine WC.exit ?_
  refine WX.seqE ?_
  refine WX.seqE ?_
  refine WX.blockE ?_
  refine WX.seqN ?_
  refine WC.seq ?_
  have h16 : ((ws.length : Int) == 2) = false := beq_eq_false_iff_ne.2 (by omega)
  have h17 : ((ws.length : Int) != 2) = true := bne_iff_ne.2 (by omega)
  have h18 : ((ws.length : Int) == 3) = false := beq_eq_false_iff_ne.2 (by omega)
  have h19 : ((ws.length : Int) != 3) = true := bne_iff_ne.2 (by omega)
  refine WC.region ?_
  refine WL.op (d := 30) (.slice A ws.length cp) (k := ?_)
  refine WL.op (d := 31) (.int .i64 (ws.length : Int)) (k := ?_)
  refine WL.op (d := 32) (.bool ((ws.length : Int) == 2)) (k := ?_)
  refine WL.op (d := 33) (.bool ((ws.length : Int) == 2)) (k := ?_)
  refine WL.rw (t := 33) (v := .bool false) (congrArg Value.bool h16) (k := ?_)
  refine WL.skip (d := 34) (k := ?_)
  refine WL.skip (d := 35) (k := ?_)
  refine WL.skip (d := 36) (k := ?_)
  refine WL.skip (d := 37) (k := ?_)
  refine WL.op (d := 38) (.bool false) (k := ?_)
  refine WL.op (d := 5) (.bool false) (k := ?_)
  refine WL.nil ?_
  refine WX.seqN ?_
  refine WC.seq ?_
  refine WC.region ?_
  refine WL.op (d := 39) (.slice A ws.length cp) (k := ?_)
  refine WL.op (d := 40) (.int .i64 (ws.length : Int)) (k := ?_)
  refine WL.op (d := 41) (.bool ((ws.length : Int) == 3)) (k := ?_)
  refine WL.op (d := 42) (.bool ((ws.length : Int) == 3)) (k := ?_)
  refine WL.rw (t := 42) (v := .bool false) (congrArg Value.bool h18) (k := ?_)
  refine WL.skip (d := 43) (k := ?_)
  refine WL.skip (d := 44) (k := ?_)
  refine WL.skip (d := 45) (k := ?_)
  refine WL.skip (d := 46) (k := ?_)
  refine WL.op (d := 47) (.bool false) (k := ?_)
  refine WL.op (d := 48) (.bool false) (k := ?_)
  refine WL.skip (d := 49) (k := ?_)
  refine WL.skip (d := 50) (k := ?_)
  refine WL.skip (d := 51) (k := ?_)
  refine WL.skip (d := 52) (k := ?_)
  refine WL.op (d := 53) (.bool false) (k := ?_)
  refine WL.op (d := 6) (.bool false) (k := ?_)
  refine WL.nil ?_
  refine WX.seqN ?_
  refine WC.seq ?_
  refine WC.seq ?_
  refine WC.region ?_
  refine WL.op (d := 54) (.slice A ws.length cp) (k := ?_)
  obtain ⟨b20, o21, r22, hr23, hA24, he25⟩ := SlAt.at hA (i := 0) (by omega) (by omega)
  refine WL.rw (t := 54) (v := .slice (some ⟨b20, o21, none⟩) ws.length cp) (congrArg (fun a => Value.slice a ws.length cp) hA24) (k := ?_)
  have wx26 := hx _ (List.mem_of_getElem? hr23)
  refine WL.idx (T := 43) (E := 9) (m := 1) (b := b20) (o := o21) (len := ws.length) (cap := cp) (i := 0) (kk := .i64) (d := 55) (by omega) (by omega) (k := ?_)
  refine WL.rw (t := 54) (v := .slice A ws.length cp) (congrArg (fun a => Value.slice a ws.length cp) (Eq.symm hA24)) (k := ?_)
  refine WL.load (v := .string ⟨(r22).toArray⟩) ((he25.adds K).ld0 (T := 9)) (k := ?_)
  refine WL.nil ?_
  refine WX.seqN ?_
  refine WC.block ?_
  refine WC.seq ?_
  refine WC.seq ?_
  refine WC.region ?_
  refine WL.opE (d := 58) (.bool (ByteArray.toList ⟨(r22).toArray⟩ == ByteArray.toList ⟨([97, 100, 109, 105, 116]).toArray⟩)) (v := .bool (decide (r22 = [97, 100, 109, 105, 116]))) (str_eql _ _) (k := ?_)
  refine WL.op (d := 57) (.bool (decide (r22 = [97, 100, 109, 105, 116]))) (k := ?_)
  refine WL.nil ?_
  refine WX.seqN ?_
  refine WC.cond (b := decide (r22 = [97, 100, 109, 105, 116])) (ht := fun h27 => ?_) (hf := fun h27 => ?_)
  · have ph27 := of_decide_eq_true h27
    refine WC.skip ?_
    refine WX.seqN ?_
    refine WC.rw (t := 57) (v := .bool true) (congrArg Value.bool h27) (k := ?_)
    refine WC.condT (k := ?_)
    refine WC.seq ?_
    refine WC.seq ?_
    refine WC.region ?_
    refine WL.op (d := 60) (.slice A ws.length cp) (k := ?_)
    refine WL.op (d := 61) (.int .i64 (ws.length : Int)) (k := ?_)
    refine WL.op (d := 62) (.bool ((ws.length : Int) != 2)) (k := ?_)
    refine WL.nil ?_
    refine WX.seqN ?_
    refine WC.rw (t := 62) (v := .bool true) (congrArg Value.bool h17) (k := ?_)
    refine WC.condT (k := ?_)
    refine WC.seq ?_
    refine WC.region ?_
    refine WL.op (d := 63) (gotV 0 GOp.zero 0 0 0 none 0 0 false) (k := ?_)
    refine WL.store (v := gotV 0 GOp.zero 0 0 0 none 0 0 false) (i := 0) (cs' := (Value.cells (gotV 0 GOp.zero 0 0 0 none 0 0 false))) hb4 (k := fun w28 hb29 k30 => ?_)
    replace hb10 := k30.heap hb10 (Ne.symm n13)
    replace K := K.trans' k30 (fun i hi e => absurd (e ▸ hi) (Nat.not_lt.2 z6))
    clear hb4
    refine WL.nil ?_
    refine WX.seqN ?_
    refine WC.ret ?_
    refine WX.seqR ?_
    refine WX.blockR ?_
    refine WX.seqR ?_
    refine WX.ret (rs := [.cell 2 53]) [gotV 0 GOp.zero 0 0 0 none 0 0 false] (gotV 0 GOp.zero 0 0 0 none 0 0 false) ⟨⟨_, (by kernel_rfl), ldN (T := 53) (i := 0) (m := 16) (l := (Value.cells (gotV 0 GOp.zero 0 0 0 none 0 0 false)).toList) hb29⟩, trivial⟩ (k := ?_)
    exact ⟨(⟨⟨0, (⟨0, ⟨0, 0, 0, 0, 0⟩, false, 0, 0, 0⟩ : GOp), 0, 0, 0, []⟩, none, 0⟩ : GCmd), false, rfl, OwAt.nil, (by simp [blk]), (q_task_no hr23 (.inl ph27) (by omega)), (by simp), K⟩
  · have ph27 := of_decide_eq_false h27
    refine WC.region ?_
    refine WL.opE (d := 59) (.bool (ByteArray.toList ⟨(r22).toArray⟩ == ByteArray.toList ⟨([115, 101, 114, 118, 101]).toArray⟩)) (v := .bool (decide (r22 = [115, 101, 114, 118, 101]))) (str_eql _ _) (k := ?_)
    refine WL.op (d := 57) (.bool (decide (r22 = [115, 101, 114, 118, 101]))) (k := ?_)
    refine WL.nil ?_
    refine WX.seqN ?_
    refine WC.cond (b := decide (r22 = [115, 101, 114, 118, 101])) (ht := fun h31 => ?_) (hf := fun h31 => ?_)
    · have ph31 := of_decide_eq_true h31
      refine WC.seq ?_
      refine WC.seq ?_
      refine WC.region ?_
      refine WL.op (d := 60) (.slice A ws.length cp) (k := ?_)
      refine WL.op (d := 61) (.int .i64 (ws.length : Int)) (k := ?_)
      refine WL.op (d := 62) (.bool ((ws.length : Int) != 2)) (k := ?_)
      refine WL.nil ?_
      refine WX.seqN ?_
      refine WC.rw (t := 62) (v := .bool true) (congrArg Value.bool h17) (k := ?_)
      refine WC.condT (k := ?_)
      refine WC.seq ?_
      refine WC.region ?_
      refine WL.op (d := 63) (gotV 0 GOp.zero 0 0 0 none 0 0 false) (k := ?_)
      refine WL.store (v := gotV 0 GOp.zero 0 0 0 none 0 0 false) (i := 0) (cs' := (Value.cells (gotV 0 GOp.zero 0 0 0 none 0 0 false))) hb4 (k := fun w32 hb33 k34 => ?_)
      replace hb10 := k34.heap hb10 (Ne.symm n13)
      replace K := K.trans' k34 (fun i hi e => absurd (e ▸ hi) (Nat.not_lt.2 z6))
      clear hb4
      refine WL.nil ?_
      refine WX.seqN ?_
      refine WC.ret ?_
      refine WX.seqR ?_
      refine WX.blockR ?_
      refine WX.seqR ?_
      refine WX.ret (rs := [.cell 2 53]) [gotV 0 GOp.zero 0 0 0 none 0 0 false] (gotV 0 GOp.zero 0 0 0 none 0 0 false) ⟨⟨_, (by kernel_rfl), ldN (T := 53) (i := 0) (m := 16) (l := (Value.cells (gotV 0 GOp.zero 0 0 0 none 0 0 false)).toList) hb33⟩, trivial⟩ (k := ?_)
      exact ⟨(⟨⟨0, (⟨0, ⟨0, 0, 0, 0, 0⟩, false, 0, 0, 0⟩ : GOp), 0, 0, 0, []⟩, none, 0⟩ : GCmd), false, rfl, OwAt.nil, (by simp [blk]), (q_task_no hr23 (.inr ph31) (by omega)), (by simp), K⟩
    · have ph31 := of_decide_eq_false h31
      refine WC.seq ?_
      refine WC.region ?_
      refine WL.opE (d := 81) (.bool (ByteArray.toList ⟨(r22).toArray⟩ == ByteArray.toList ⟨([114, 101, 109, 111, 118, 101]).toArray⟩)) (v := .bool (decide (r22 = [114, 101, 109, 111, 118, 101]))) (str_eql _ _) (k := ?_)
      refine WL.op (d := 80) (.bool (decide (r22 = [114, 101, 109, 111, 118, 101]))) (k := ?_)
      refine WL.nil ?_
      refine WX.seqN ?_
      refine WC.cond (b := decide (r22 = [114, 101, 109, 111, 118, 101])) (ht := fun h35 => ?_) (hf := fun h35 => ?_)
      · have ph35 := of_decide_eq_true h35
        refine WC.seq ?_
        refine WC.region ?_
        refine WL.op (d := 82) (.slice (some ⟨b7, 0, none⟩) 2 2) (k := ?_)
        refine WL.op (d := 83) (.pointer (some ⟨b7, 0, none⟩)) (k := ?_)
        refine WL.load (v := .int .i64 (-1)) (ld1 (T := 2) (i := 0) hb10) (k := ?_)
        refine WL.op (d := 85) (.agg #[.int .i64 2, .int .i64 0, .int .i64 0, .int .i64 0, .int .i64 0, .int .i64 0, .bool false, .int .i64 (-1), .int .i64 0, .int .i64 0]) (k := ?_)
        refine WL.op (d := 86) (.agg #[.int .i64 1, .int .i64 2, .int .i64 0, .int .i64 0, .int .i64 0, .int .i64 0, .int .i64 0, .bool false, .int .i64 (-1), .int .i64 0, .int .i64 0, .int .i64 0, .int .i64 0, .int .i64 0, .slice none 0 0]) (k := ?_)
        refine WL.op (d := 87) (.bool false) (k := ?_)
        refine WL.op (d := 88) (gotV 1 (⟨2, ⟨0, 0, 0, 0, 0⟩, false, (-1), 0, 0⟩ : GOp) 0 0 0 none 0 0 false) (k := ?_)
        refine WL.store (v := gotV 1 (⟨2, ⟨0, 0, 0, 0, 0⟩, false, (-1), 0, 0⟩ : GOp) 0 0 0 none 0 0 false) (i := 0) (cs' := (Value.cells (gotV 1 (⟨2, ⟨0, 0, 0, 0, 0⟩, false, (-1), 0, 0⟩ : GOp) 0 0 0 none 0 0 false))) hb4 (k := fun w36 hb37 k38 => ?_)
        replace hb10 := k38.heap hb10 (Ne.symm n13)
        replace K := K.trans' k38 (fun i hi e => absurd (e ▸ hi) (Nat.not_lt.2 z6))
        clear hb4
        refine WL.nil ?_
        refine WX.seqN ?_
        refine WC.ret ?_
        refine WX.blockR ?_
        refine WX.seqR ?_
        refine WX.ret (rs := [.cell 2 53]) [gotV 1 (⟨2, ⟨0, 0, 0, 0, 0⟩, false, (-1), 0, 0⟩ : GOp) 0 0 0 none 0 0 false] (gotV 1 (⟨2, ⟨0, 0, 0, 0, 0⟩, false, (-1), 0, 0⟩ : GOp) 0 0 0 none 0 0 false) ⟨⟨_, (by kernel_rfl), ldN (T := 53) (i := 0) (m := 16) (l := (Value.cells (gotV 1 (⟨2, ⟨0, 0, 0, 0, 0⟩, false, (-1), 0, 0⟩ : GOp) 0 0 0 none 0 0 false)).toList) hb37⟩, trivial⟩ (k := ?_)
        exact ⟨(⟨⟨1, (⟨2, ⟨0, 0, 0, 0, 0⟩, false, (-1), 0, 0⟩ : GOp), 0, 0, 0, []⟩, none, 0⟩ : GCmd), false, rfl, OwAt.nil, (by simp [blk]), (q_one_no (G := gRemove) (kw := kRemove) (hr23.trans (congrArg some ph35)) qb_remove (by omega)), (by simp), K⟩
      · have ph35 := of_decide_eq_false h35
        refine WC.seq ?_
        refine WC.region ?_
        refine WL.opE (d := 90) (.bool (ByteArray.toList ⟨(r22).toArray⟩ == ByteArray.toList ⟨([114, 101, 115, 105, 122, 101]).toArray⟩)) (v := .bool (decide (r22 = [114, 101, 115, 105, 122, 101]))) (str_eql _ _) (k := ?_)
        refine WL.op (d := 89) (.bool (decide (r22 = [114, 101, 115, 105, 122, 101]))) (k := ?_)
        refine WL.nil ?_
        refine WX.seqN ?_
        refine WC.cond (b := decide (r22 = [114, 101, 115, 105, 122, 101])) (ht := fun h39 => ?_) (hf := fun h39 => ?_)
        · have ph39 := of_decide_eq_true h39
          refine WC.seq ?_
          refine WC.mixed (fun _ => False) 10 (k := fun w40 k41 => ?_)
          replace hb4 := k41.heap hb4 id
          replace hb10 := k41.heap hb10 id
          replace K := K.trans (k41.any _)
          have KC := Keeps.refl (fun _ => False) w40
          have bh42 := hb4
          have bh43 := hb10
          have Kb := K
          refine WA.quiet 0 (d := 91) (.slice (some ⟨b7, 0, none⟩) 2 2) KC (hi := rfl) (k := ?_)
          refine WA.quiet 1 (d := 92) (.pointer (some ⟨b7, 0, none⟩)) KC (hi := rfl) (k := ?_)
          refine WA.quietR 2 (d := 93) (.int .i64 (-1)) KC (exec_load (fun w_ k_ => ld1 (T := 2) (i := 0) (k_.heap bh43 id))) (hi := rfl) (k := ?_)
          refine WA.quiet 3 (d := 94) (.slice (some ⟨b7, 0, none⟩) 2 2) KC (hi := rfl) (k := ?_)
          refine WA.quiet 4 (d := 95) (.pointer (some ⟨b7, 1, none⟩)) KC (hi := rfl) (k := ?_)
          refine WA.quietR 5 (d := 96) (.int .i64 (-1)) KC (exec_load (fun w_ k_ => ld1 (T := 2) (i := 1) (k_.heap bh43 id))) (hi := rfl) (k := ?_)
          refine WA.quiet 6 (d := 97) (.agg #[.int .i64 3, .int .i64 0, .int .i64 0, .int .i64 0, .int .i64 0, .int .i64 0, .bool false, .int .i64 (-1), .int .i64 (-1), .int .i64 0]) KC (hi := rfl) (k := ?_)
          refine WA.quiet 7 (d := 98) (.agg #[.int .i64 1, .int .i64 3, .int .i64 0, .int .i64 0, .int .i64 0, .int .i64 0, .int .i64 0, .bool false, .int .i64 (-1), .int .i64 (-1), .int .i64 0, .int .i64 0, .int .i64 0, .int .i64 0, .slice none 0 0]) KC (hi := rfl) (k := ?_)
          refine WA.quiet 8 (d := 99) (.bool false) KC (hi := rfl) (k := ?_)
          refine WA.quiet 9 (d := 100) (gotV 1 (⟨3, ⟨0, 0, 0, 0, 0⟩, false, (-1), (-1), 0⟩ : GOp) 0 0 0 none 0 0 false) KC (hi := rfl) (k := ?_)
          refine WA.step 10 (hi := rfl) (k := ?_)
          refine WL.store (v := gotV 1 (⟨3, ⟨0, 0, 0, 0, 0⟩, false, (-1), (-1), 0⟩ : GOp) 0 0 0 none 0 0 false) (i := 0) (cs' := (Value.cells (gotV 1 (⟨3, ⟨0, 0, 0, 0, 0⟩, false, (-1), (-1), 0⟩ : GOp) 0 0 0 none 0 0 false))) hb4 (k := fun w44 hb45 k46 => ?_)
          replace hb10 := k46.heap hb10 (Ne.symm n13)
          replace K := K.trans' k46 (fun i hi e => absurd (e ▸ hi) (Nat.not_lt.2 z6))
          clear hb4
          refine WL.nil ?_
          refine WX.nxtL ?_
          refine WA.done (k := ?_)
          clear KC
          refine WX.seqN ?_
          refine WC.ret ?_
          refine WX.blockR ?_
          refine WX.seqR ?_
          refine WX.ret (rs := [.cell 2 53]) [gotV 1 (⟨3, ⟨0, 0, 0, 0, 0⟩, false, (-1), (-1), 0⟩ : GOp) 0 0 0 none 0 0 false] (gotV 1 (⟨3, ⟨0, 0, 0, 0, 0⟩, false, (-1), (-1), 0⟩ : GOp) 0 0 0 none 0 0 false) ⟨⟨_, (by kernel_rfl), ldN (T := 53) (i := 0) (m := 16) (l := (Value.cells (gotV 1 (⟨3, ⟨0, 0, 0, 0, 0⟩, false, (-1), (-1), 0⟩ : GOp) 0 0 0 none 0 0 false)).toList) hb45⟩, trivial⟩ (k := ?_)
          exact ⟨(⟨⟨1, (⟨3, ⟨0, 0, 0, 0, 0⟩, false, (-1), (-1), 0⟩ : GOp), 0, 0, 0, []⟩, none, 0⟩ : GCmd), false, rfl, OwAt.nil, (by simp [blk]), (q_two_no (G := gResize) (kw := kResize) (hr23.trans (congrArg some ph39)) qb_resize (by omega)), (by simp), K⟩
        · have ph39 := of_decide_eq_false h39
          refine WC.seq ?_
          refine WC.region ?_
          refine WL.opE (d := 102) (.bool (ByteArray.toList ⟨(r22).toArray⟩ == ByteArray.toList ⟨([109, 111, 100, 101]).toArray⟩)) (v := .bool (decide (r22 = [109, 111, 100, 101]))) (str_eql _ _) (k := ?_)
          refine WL.op (d := 101) (.bool (decide (r22 = [109, 111, 100, 101]))) (k := ?_)
          refine WL.nil ?_
          refine WX.seqN ?_
          refine WC.cond (b := decide (r22 = [109, 111, 100, 101])) (ht := fun h47 => ?_) (hf := fun h47 => ?_)
          · have ph47 := of_decide_eq_true h47
            refine WC.seq ?_
            refine WC.region ?_
            refine WL.op (d := 103) (.slice (some ⟨b7, 0, none⟩) 2 2) (k := ?_)
            refine WL.op (d := 104) (.pointer (some ⟨b7, 0, none⟩)) (k := ?_)
            refine WL.load (v := .int .i64 (-1)) (ld1 (T := 2) (i := 0) hb10) (k := ?_)
            refine WL.op (d := 106) (.agg #[.int .i64 4, .int .i64 0, .int .i64 0, .int .i64 0, .int .i64 0, .int .i64 0, .bool false, .int .i64 0, .int .i64 0, .int .i64 (-1)]) (k := ?_)
            refine WL.op (d := 107) (.agg #[.int .i64 1, .int .i64 4, .int .i64 0, .int .i64 0, .int .i64 0, .int .i64 0, .int .i64 0, .bool false, .int .i64 0, .int .i64 0, .int .i64 (-1), .int .i64 0, .int .i64 0, .int .i64 0, .slice none 0 0]) (k := ?_)
            refine WL.op (d := 108) (.bool false) (k := ?_)
            refine WL.op (d := 109) (gotV 1 (⟨4, ⟨0, 0, 0, 0, 0⟩, false, 0, 0, (-1)⟩ : GOp) 0 0 0 none 0 0 false) (k := ?_)
            refine WL.store (v := gotV 1 (⟨4, ⟨0, 0, 0, 0, 0⟩, false, 0, 0, (-1)⟩ : GOp) 0 0 0 none 0 0 false) (i := 0) (cs' := (Value.cells (gotV 1 (⟨4, ⟨0, 0, 0, 0, 0⟩, false, 0, 0, (-1)⟩ : GOp) 0 0 0 none 0 0 false))) hb4 (k := fun w48 hb49 k50 => ?_)
            replace hb10 := k50.heap hb10 (Ne.symm n13)
            replace K := K.trans' k50 (fun i hi e => absurd (e ▸ hi) (Nat.not_lt.2 z6))
            clear hb4
            refine WL.nil ?_
            refine WX.seqN ?_
            refine WC.ret ?_
            refine WX.blockR ?_
            refine WX.seqR ?_
            refine WX.ret (rs := [.cell 2 53]) [gotV 1 (⟨4, ⟨0, 0, 0, 0, 0⟩, false, 0, 0, (-1)⟩ : GOp) 0 0 0 none 0 0 false] (gotV 1 (⟨4, ⟨0, 0, 0, 0, 0⟩, false, 0, 0, (-1)⟩ : GOp) 0 0 0 none 0 0 false) ⟨⟨_, (by kernel_rfl), ldN (T := 53) (i := 0) (m := 16) (l := (Value.cells (gotV 1 (⟨4, ⟨0, 0, 0, 0, 0⟩, false, 0, 0, (-1)⟩ : GOp) 0 0 0 none 0 0 false)).toList) hb49⟩, trivial⟩ (k := ?_)
            exact ⟨(⟨⟨1, (⟨4, ⟨0, 0, 0, 0, 0⟩, false, 0, 0, (-1)⟩ : GOp), 0, 0, 0, []⟩, none, 0⟩ : GCmd), false, rfl, OwAt.nil, (by simp [blk]), (q_one_no (G := gMode) (kw := kMode) (hr23.trans (congrArg some ph47)) qb_mode (by omega)), (by simp), K⟩
          · have ph47 := of_decide_eq_false h47
            refine WC.seq ?_
            refine WC.region ?_
            refine WL.opE (d := 111) (.bool (ByteArray.toList ⟨(r22).toArray⟩ == ByteArray.toList ⟨([114, 101, 108, 101, 97, 115, 101]).toArray⟩)) (v := .bool (decide (r22 = [114, 101, 108, 101, 97, 115, 101]))) (str_eql _ _) (k := ?_)
            refine WL.op (d := 110) (.bool (decide (r22 = [114, 101, 108, 101, 97, 115, 101]))) (k := ?_)
            refine WL.nil ?_
            refine WX.seqN ?_
            refine WC.cond (b := decide (r22 = [114, 101, 108, 101, 97, 115, 101])) (ht := fun h51 => ?_) (hf := fun h51 => ?_)
            · have ph51 := of_decide_eq_true h51
              refine WC.seq ?_
              refine WC.mixed (fun _ => False) 9 (k := fun w52 k53 => ?_)
              replace hb4 := k53.heap hb4 id
              replace hb10 := k53.heap hb10 id
              replace K := K.trans (k53.any _)
              have KC := Keeps.refl (fun _ => False) w52
              have bh54 := hb4
              have bh55 := hb10
              have Kb := K
              refine WA.quiet 0 (d := 112) (.slice (some ⟨b7, 0, none⟩) 2 2) KC (hi := rfl) (k := ?_)
              refine WA.quiet 1 (d := 113) (.pointer (some ⟨b7, 0, none⟩)) KC (hi := rfl) (k := ?_)
              refine WA.quietR 2 (d := 114) (.int .i64 (-1)) KC (exec_load (fun w_ k_ => ld1 (T := 2) (i := 0) (k_.heap bh55 id))) (hi := rfl) (k := ?_)
              refine WA.quiet 3 (d := 115) (.slice (some ⟨b7, 0, none⟩) 2 2) KC (hi := rfl) (k := ?_)
              refine WA.quiet 4 (d := 116) (.pointer (some ⟨b7, 1, none⟩)) KC (hi := rfl) (k := ?_)
              refine WA.quietR 5 (d := 117) (.int .i64 (-1)) KC (exec_load (fun w_ k_ => ld1 (T := 2) (i := 1) (k_.heap bh55 id))) (hi := rfl) (k := ?_)
              refine WA.quiet 6 (d := 118) (.agg #[.int .i64 2, .int .i64 0, .int .i64 0, .int .i64 0, .int .i64 0, .int .i64 0, .int .i64 0, .bool false, .int .i64 0, .int .i64 0, .int .i64 0, .int .i64 (-1), .int .i64 (-1), .int .i64 0, .slice none 0 0]) KC (hi := rfl) (k := ?_)
              refine WA.quiet 7 (d := 119) (.bool false) KC (hi := rfl) (k := ?_)
              refine WA.quiet 8 (d := 120) (gotV 2 GOp.zero (-1) (-1) 0 none 0 0 false) KC (hi := rfl) (k := ?_)
              refine WA.step 9 (hi := rfl) (k := ?_)
              refine WL.store (v := gotV 2 GOp.zero (-1) (-1) 0 none 0 0 false) (i := 0) (cs' := (Value.cells (gotV 2 GOp.zero (-1) (-1) 0 none 0 0 false))) hb4 (k := fun w56 hb57 k58 => ?_)
              replace hb10 := k58.heap hb10 (Ne.symm n13)
              replace K := K.trans' k58 (fun i hi e => absurd (e ▸ hi) (Nat.not_lt.2 z6))
              clear hb4
              refine WL.nil ?_
              refine WX.nxtL ?_
              refine WA.done (k := ?_)
              clear KC
              refine WX.seqN ?_
              refine WC.ret ?_
              refine WX.blockR ?_
              refine WX.seqR ?_
              refine WX.ret (rs := [.cell 2 53]) [gotV 2 GOp.zero (-1) (-1) 0 none 0 0 false] (gotV 2 GOp.zero (-1) (-1) 0 none 0 0 false) ⟨⟨_, (by kernel_rfl), ldN (T := 53) (i := 0) (m := 16) (l := (Value.cells (gotV 2 GOp.zero (-1) (-1) 0 none 0 0 false)).toList) hb57⟩, trivial⟩ (k := ?_)
              exact ⟨(⟨⟨2, (⟨0, ⟨0, 0, 0, 0, 0⟩, false, 0, 0, 0⟩ : GOp), (-1), (-1), 0, []⟩, none, 0⟩ : GCmd), false, rfl, OwAt.nil, (by simp [blk]), (q_two_no (G := (gWrk 2)) (kw := kRelease) (hr23.trans (congrArg some ph51)) (qb_wrk (.inl ⟨rfl, rfl⟩)) (by omega)), (by simp), K⟩
            · have ph51 := of_decide_eq_false h51
              refine WC.seq ?_
              refine WC.region ?_
              refine WL.opE (d := 122) (.bool (ByteArray.toList ⟨(r22).toArray⟩ == ByteArray.toList ⟨([97, 115, 107]).toArray⟩)) (v := .bool (decide (r22 = [97, 115, 107]))) (str_eql _ _) (k := ?_)
              refine WL.op (d := 121) (.bool (decide (r22 = [97, 115, 107]))) (k := ?_)
              refine WL.nil ?_
              refine WX.seqN ?_
              refine WC.cond (b := decide (r22 = [97, 115, 107])) (ht := fun h59 => ?_) (hf := fun h59 => ?_)
              · have ph59 := of_decide_eq_true h59
                refine WC.seq ?_
                refine WC.mixed (fun _ => False) 9 (k := fun w60 k61 => ?_)
                replace hb4 := k61.heap hb4 id
                replace hb10 := k61.heap hb10 id
                replace K := K.trans (k61.any _)
                have KC := Keeps.refl (fun _ => False) w60
                have bh62 := hb4
                have bh63 := hb10
                have Kb := K
                refine WA.quiet 0 (d := 123) (.slice (some ⟨b7, 0, none⟩) 2 2) KC (hi := rfl) (k := ?_)
                refine WA.quiet 1 (d := 124) (.pointer (some ⟨b7, 0, none⟩)) KC (hi := rfl) (k := ?_)
                refine WA.quietR 2 (d := 125) (.int .i64 (-1)) KC (exec_load (fun w_ k_ => ld1 (T := 2) (i := 0) (k_.heap bh63 id))) (hi := rfl) (k := ?_)
                refine WA.quiet 3 (d := 126) (.slice (some ⟨b7, 0, none⟩) 2 2) KC (hi := rfl) (k := ?_)
                refine WA.quiet 4 (d := 127) (.pointer (some ⟨b7, 1, none⟩)) KC (hi := rfl) (k := ?_)
                refine WA.quietR 5 (d := 128) (.int .i64 (-1)) KC (exec_load (fun w_ k_ => ld1 (T := 2) (i := 1) (k_.heap bh63 id))) (hi := rfl) (k := ?_)
                refine WA.quiet 6 (d := 129) (.agg #[.int .i64 3, .int .i64 0, .int .i64 0, .int .i64 0, .int .i64 0, .int .i64 0, .int .i64 0, .bool false, .int .i64 0, .int .i64 0, .int .i64 0, .int .i64 (-1), .int .i64 (-1), .int .i64 0, .slice none 0 0]) KC (hi := rfl) (k := ?_)
                refine WA.quiet 7 (d := 130) (.bool false) KC (hi := rfl) (k := ?_)
                refine WA.quiet 8 (d := 131) (gotV 3 GOp.zero (-1) (-1) 0 none 0 0 false) KC (hi := rfl) (k := ?_)
                refine WA.step 9 (hi := rfl) (k := ?_)
                refine WL.store (v := gotV 3 GOp.zero (-1) (-1) 0 none 0 0 false) (i := 0) (cs' := (Value.cells (gotV 3 GOp.zero (-1) (-1) 0 none 0 0 false))) hb4 (k := fun w64 hb65 k66 => ?_)
                replace hb10 := k66.heap hb10 (Ne.symm n13)
                replace K := K.trans' k66 (fun i hi e => absurd (e ▸ hi) (Nat.not_lt.2 z6))
                clear hb4
                refine WL.nil ?_
                refine WX.nxtL ?_
                refine WA.done (k := ?_)
                clear KC
                refine WX.seqN ?_
                refine WC.ret ?_
                refine WX.blockR ?_
                refine WX.seqR ?_
                refine WX.ret (rs := [.cell 2 53]) [gotV 3 GOp.zero (-1) (-1) 0 none 0 0 false] (gotV 3 GOp.zero (-1) (-1) 0 none 0 0 false) ⟨⟨_, (by kernel_rfl), ldN (T := 53) (i := 0) (m := 16) (l := (Value.cells (gotV 3 GOp.zero (-1) (-1) 0 none 0 0 false)).toList) hb65⟩, trivial⟩ (k := ?_)
                exact ⟨(⟨⟨3, (⟨0, ⟨0, 0, 0, 0, 0⟩, false, 0, 0, 0⟩ : GOp), (-1), (-1), 0, []⟩, none, 0⟩ : GCmd), false, rfl, OwAt.nil, (by simp [blk]), (q_two_no (G := (gWrk 3)) (kw := kAsk) (hr23.trans (congrArg some ph59)) (qb_wrk (.inr ⟨rfl, rfl⟩)) (by omega)), (by simp), K⟩
              · have ph59 := of_decide_eq_false h59
                refine WC.seq ?_
                refine WC.region ?_
                refine WL.opE (d := 133) (.bool (ByteArray.toList ⟨(r22).toArray⟩ == ByteArray.toList ⟨([116, 105, 99, 107]).toArray⟩)) (v := .bool (decide (r22 = [116, 105, 99, 107]))) (str_eql _ _) (k := ?_)
                refine WL.op (d := 132) (.bool (decide (r22 = [116, 105, 99, 107]))) (k := ?_)
                refine WL.nil ?_
                refine WX.seqN ?_
                refine WC.cond (b := decide (r22 = [116, 105, 99, 107])) (ht := fun h67 => ?_) (hf := fun h67 => ?_)
                · have ph67 := of_decide_eq_true h67
                  refine WC.seq ?_
                  refine WC.region ?_
                  refine WL.op (d := 134) (.slice (some ⟨b7, 0, none⟩) 2 2) (k := ?_)
                  refine WL.op (d := 135) (.pointer (some ⟨b7, 0, none⟩)) (k := ?_)
                  refine WL.load (v := .int .i64 (-1)) (ld1 (T := 2) (i := 0) hb10) (k := ?_)
                  refine WL.op (d := 137) (.agg #[.int .i64 4, .int .i64 0, .int .i64 0, .int .i64 0, .int .i64 0, .int .i64 0, .int .i64 0, .bool false, .int .i64 0, .int .i64 0, .int .i64 0, .int .i64 0, .int .i64 0, .int .i64 (-1), .slice none 0 0]) (k := ?_)
                  refine WL.op (d := 138) (.bool false) (k := ?_)
                  refine WL.op (d := 139) (gotV 4 GOp.zero 0 0 (-1) none 0 0 false) (k := ?_)
                  refine WL.store (v := gotV 4 GOp.zero 0 0 (-1) none 0 0 false) (i := 0) (cs' := (Value.cells (gotV 4 GOp.zero 0 0 (-1) none 0 0 false))) hb4 (k := fun w68 hb69 k70 => ?_)
                  replace hb10 := k70.heap hb10 (Ne.symm n13)
                  replace K := K.trans' k70 (fun i hi e => absurd (e ▸ hi) (Nat.not_lt.2 z6))
                  clear hb4
                  refine WL.nil ?_
                  refine WX.seqN ?_
                  refine WC.ret ?_
                  refine WX.blockR ?_
                  refine WX.seqR ?_
                  refine WX.ret (rs := [.cell 2 53]) [gotV 4 GOp.zero 0 0 (-1) none 0 0 false] (gotV 4 GOp.zero 0 0 (-1) none 0 0 false) ⟨⟨_, (by kernel_rfl), ldN (T := 53) (i := 0) (m := 16) (l := (Value.cells (gotV 4 GOp.zero 0 0 (-1) none 0 0 false)).toList) hb69⟩, trivial⟩ (k := ?_)
                  exact ⟨(⟨⟨4, (⟨0, ⟨0, 0, 0, 0, 0⟩, false, 0, 0, 0⟩ : GOp), 0, 0, (-1), []⟩, none, 0⟩ : GCmd), false, rfl, OwAt.nil, (by simp [blk]), (q_one_no (G := gTick) (kw := kTick) (hr23.trans (congrArg some ph67)) qb_tick (by omega)), (by simp), K⟩
                · have ph67 := of_decide_eq_false h67
                  refine WC.seq ?_
                  refine WC.region ?_
                  refine WL.opE (d := 141) (.bool (ByteArray.toList ⟨(r22).toArray⟩ == ByteArray.toList ⟨([102, 97, 105, 108]).toArray⟩)) (v := .bool (decide (r22 = [102, 97, 105, 108]))) (str_eql _ _) (k := ?_)
                  refine WL.op (d := 140) (.bool (decide (r22 = [102, 97, 105, 108]))) (k := ?_)
                  refine WL.nil ?_
                  refine WX.seqN ?_
                  refine WC.cond (b := decide (r22 = [102, 97, 105, 108])) (ht := fun h71 => ?_) (hf := fun h71 => ?_)
                  · have ph71 := of_decide_eq_true h71
                    refine WC.seq ?_
                    refine WC.region ?_
                    refine WL.op (d := 142) (.slice (some ⟨b7, 0, none⟩) 2 2) (k := ?_)
                    refine WL.op (d := 143) (.pointer (some ⟨b7, 0, none⟩)) (k := ?_)
                    refine WL.load (v := .int .i64 (-1)) (ld1 (T := 2) (i := 0) hb10) (k := ?_)
                    refine WL.op (d := 145) (.agg #[.int .i64 7, .int .i64 0, .int .i64 0, .int .i64 0, .int .i64 0, .int .i64 0, .int .i64 0, .bool false, .int .i64 0, .int .i64 0, .int .i64 0, .int .i64 0, .int .i64 0, .int .i64 (-1), .slice none 0 0]) (k := ?_)
                    refine WL.op (d := 146) (.bool false) (k := ?_)
                    refine WL.op (d := 147) (gotV 7 GOp.zero 0 0 (-1) none 0 0 false) (k := ?_)
                    refine WL.store (v := gotV 7 GOp.zero 0 0 (-1) none 0 0 false) (i := 0) (cs' := (Value.cells (gotV 7 GOp.zero 0 0 (-1) none 0 0 false))) hb4 (k := fun w72 hb73 k74 => ?_)
                    replace hb10 := k74.heap hb10 (Ne.symm n13)
                    replace K := K.trans' k74 (fun i hi e => absurd (e ▸ hi) (Nat.not_lt.2 z6))
                    clear hb4
                    refine WL.nil ?_
                    refine WX.seqN ?_
                    refine WC.ret ?_
                    refine WX.blockR ?_
                    refine WX.seqR ?_
                    refine WX.ret (rs := [.cell 2 53]) [gotV 7 GOp.zero 0 0 (-1) none 0 0 false] (gotV 7 GOp.zero 0 0 (-1) none 0 0 false) ⟨⟨_, (by kernel_rfl), ldN (T := 53) (i := 0) (m := 16) (l := (Value.cells (gotV 7 GOp.zero 0 0 (-1) none 0 0 false)).toList) hb73⟩, trivial⟩ (k := ?_)
                    exact ⟨(⟨⟨7, (⟨0, ⟨0, 0, 0, 0, 0⟩, false, 0, 0, 0⟩ : GOp), 0, 0, (-1), []⟩, none, 0⟩ : GCmd), false, rfl, OwAt.nil, (by simp [blk]), (q_one_no (G := gFail) (kw := kFail) (hr23.trans (congrArg some ph71)) qb_fail (by omega)), (by simp), K⟩
                  · have ph71 := of_decide_eq_false h71
                    refine WC.seq ?_
                    refine WC.region ?_
                    refine WL.opE (d := 149) (.bool (ByteArray.toList ⟨(r22).toArray⟩ == ByteArray.toList ⟨([113, 117, 101, 114, 121]).toArray⟩)) (v := .bool (decide (r22 = [113, 117, 101, 114, 121]))) (str_eql _ _) (k := ?_)
                    refine WL.op (d := 148) (.bool (decide (r22 = [113, 117, 101, 114, 121]))) (k := ?_)
                    refine WL.nil ?_
                    refine WX.seqN ?_
                    refine WC.cond (b := decide (r22 = [113, 117, 101, 114, 121])) (ht := fun h75 => ?_) (hf := fun h75 => ?_)
                    · have ph75 := of_decide_eq_true h75
                      refine WC.seq ?_
                      refine WC.region ?_
                      refine WL.op (d := 150) (.slice (some ⟨b7, 0, none⟩) 2 2) (k := ?_)
                      refine WL.op (d := 151) (.pointer (some ⟨b7, 0, none⟩)) (k := ?_)
                      refine WL.load (v := .int .i64 (-1)) (ld1 (T := 2) (i := 0) hb10) (k := ?_)
                      refine WL.op (d := 153) (.agg #[.int .i64 5, .int .i64 0, .int .i64 0, .int .i64 0, .int .i64 0, .int .i64 0, .int .i64 0, .bool false, .int .i64 0, .int .i64 0, .int .i64 0, .int .i64 (-1), .int .i64 0, .int .i64 0, .slice none 0 0]) (k := ?_)
                      refine WL.op (d := 154) (.bool false) (k := ?_)
                      refine WL.op (d := 155) (gotV 5 GOp.zero (-1) 0 0 none 0 0 false) (k := ?_)
                      refine WL.store (v := gotV 5 GOp.zero (-1) 0 0 none 0 0 false) (i := 0) (cs' := (Value.cells (gotV 5 GOp.zero (-1) 0 0 none 0 0 false))) hb4 (k := fun w76 hb77 k78 => ?_)
                      replace hb10 := k78.heap hb10 (Ne.symm n13)
                      replace K := K.trans' k78 (fun i hi e => absurd (e ▸ hi) (Nat.not_lt.2 z6))
                      clear hb4
                      refine WL.nil ?_
                      refine WX.seqN ?_
                      refine WC.ret ?_
                      refine WX.blockR ?_
                      refine WX.seqR ?_
                      refine WX.ret (rs := [.cell 2 53]) [gotV 5 GOp.zero (-1) 0 0 none 0 0 false] (gotV 5 GOp.zero (-1) 0 0 none 0 0 false) ⟨⟨_, (by kernel_rfl), ldN (T := 53) (i := 0) (m := 16) (l := (Value.cells (gotV 5 GOp.zero (-1) 0 0 none 0 0 false)).toList) hb77⟩, trivial⟩ (k := ?_)
                      exact ⟨(⟨⟨5, (⟨0, ⟨0, 0, 0, 0, 0⟩, false, 0, 0, 0⟩ : GOp), (-1), 0, 0, []⟩, none, 0⟩ : GCmd), false, rfl, OwAt.nil, (by simp [blk]), (q_one_no (G := gQuery) (kw := kQuery) (hr23.trans (congrArg some ph75)) qb_query (by omega)), (by simp), K⟩
                    · have ph75 := of_decide_eq_false h75
                      refine WC.seq ?_
                      refine WC.region ?_
                      refine WL.opE (d := 157) (.bool (ByteArray.toList ⟨(r22).toArray⟩ == ByteArray.toList ⟨([115, 110, 97, 112, 115, 104, 111, 116]).toArray⟩)) (v := .bool (decide (r22 = [115, 110, 97, 112, 115, 104, 111, 116]))) (str_eql _ _) (k := ?_)
                      refine WL.op (d := 156) (.bool (decide (r22 = [115, 110, 97, 112, 115, 104, 111, 116]))) (k := ?_)
                      refine WL.nil ?_
                      refine WX.seqN ?_
                      refine WC.cond (b := decide (r22 = [115, 110, 97, 112, 115, 104, 111, 116])) (ht := fun h79 => ?_) (hf := fun h79 => ?_)
                      · have ph79 := of_decide_eq_true h79
                        refine WC.seq ?_
                        refine WC.region ?_
                        refine WL.op (d := 158) (.agg #[.int .i64 6, .int .i64 0, .int .i64 0, .int .i64 0, .int .i64 0, .int .i64 0, .int .i64 0, .bool false, .int .i64 0, .int .i64 0, .int .i64 0, .int .i64 0, .int .i64 0, .int .i64 0, .slice none 0 0]) (k := ?_)
                        refine WL.op (d := 159) (.slice A ws.length cp) (k := ?_)
                        refine WL.op (d := 160) (.int .i64 (ws.length : Int)) (k := ?_)
                        refine WL.op (d := 161) (.bool ((ws.length : Int) == 1)) (k := ?_)
                        refine WL.op (d := 162) (gotV 6 GOp.zero 0 0 0 none 0 0 ((ws.length : Int) == 1)) (k := ?_)
                        refine WL.store (v := gotV 6 GOp.zero 0 0 0 none 0 0 ((ws.length : Int) == 1)) (i := 0) (cs' := (Value.cells (gotV 6 GOp.zero 0 0 0 none 0 0 ((ws.length : Int) == 1)))) hb4 (k := fun w80 hb81 k82 => ?_)
                        replace hb10 := k82.heap hb10 (Ne.symm n13)
                        replace K := K.trans' k82 (fun i hi e => absurd (e ▸ hi) (Nat.not_lt.2 z6))
                        clear hb4
                        refine WL.nil ?_
                        refine WX.seqN ?_
                        refine WC.ret ?_
                        refine WX.blockR ?_
                        refine WX.seqR ?_
                        refine WX.ret (rs := [.cell 2 53]) [gotV 6 GOp.zero 0 0 0 none 0 0 ((ws.length : Int) == 1)] (gotV 6 GOp.zero 0 0 0 none 0 0 ((ws.length : Int) == 1)) ⟨⟨_, (by kernel_rfl), ldN (T := 53) (i := 0) (m := 16) (l := (Value.cells (gotV 6 GOp.zero 0 0 0 none 0 0 ((ws.length : Int) == 1))).toList) hb81⟩, trivial⟩ (k := ?_)
                        exact ⟨(⟨⟨6, (⟨0, ⟨0, 0, 0, 0, 0⟩, false, 0, 0, 0⟩ : GOp), 0, 0, 0, []⟩, none, 0⟩ : GCmd), (ws.length : Int) == 1, rfl, OwAt.nil, (by simp [blk]), (q_nil (kw := kSnapshot) (hr23.trans (congrArg some ph79)) qb_snap), (by simp), K⟩
                      · have ph79 := of_decide_eq_false h79
                        refine WC.seq ?_
                        refine WC.region ?_
                        refine WL.opE (d := 164) (.bool (ByteArray.toList ⟨(r22).toArray⟩ == ByteArray.toList ⟨([115, 116, 97, 114, 116]).toArray⟩)) (v := .bool (decide (r22 = [115, 116, 97, 114, 116]))) (str_eql _ _) (k := ?_)
                        refine WL.op (d := 163) (.bool (decide (r22 = [115, 116, 97, 114, 116]))) (k := ?_)
                        refine WL.nil ?_
                        refine WX.seqN ?_
                        refine WC.cond (b := decide (r22 = [115, 116, 97, 114, 116])) (ht := fun h83 => ?_) (hf := fun h83 => ?_)
                        · have ph83 := of_decide_eq_true h83
                          refine WC.seq ?_
                          refine WC.region ?_
                          refine WL.op (d := 165) (.agg #[.int .i64 9, .int .i64 0, .int .i64 0, .int .i64 0, .int .i64 0, .int .i64 0, .int .i64 0, .bool false, .int .i64 0, .int .i64 0, .int .i64 0, .int .i64 0, .int .i64 0, .int .i64 0, .slice none 0 0]) (k := ?_)
                          refine WL.op (d := 166) (.slice A ws.length cp) (k := ?_)
                          refine WL.op (d := 167) (.int .i64 (ws.length : Int)) (k := ?_)
                          refine WL.op (d := 168) (.bool ((ws.length : Int) == 1)) (k := ?_)
                          refine WL.op (d := 169) (gotV 9 GOp.zero 0 0 0 none 0 0 ((ws.length : Int) == 1)) (k := ?_)
                          refine WL.store (v := gotV 9 GOp.zero 0 0 0 none 0 0 ((ws.length : Int) == 1)) (i := 0) (cs' := (Value.cells (gotV 9 GOp.zero 0 0 0 none 0 0 ((ws.length : Int) == 1)))) hb4 (k := fun w84 hb85 k86 => ?_)
                          replace hb10 := k86.heap hb10 (Ne.symm n13)
                          replace K := K.trans' k86 (fun i hi e => absurd (e ▸ hi) (Nat.not_lt.2 z6))
                          clear hb4
                          refine WL.nil ?_
                          refine WX.seqN ?_
                          refine WC.ret ?_
                          refine WX.blockR ?_
                          refine WX.seqR ?_
                          refine WX.ret (rs := [.cell 2 53]) [gotV 9 GOp.zero 0 0 0 none 0 0 ((ws.length : Int) == 1)] (gotV 9 GOp.zero 0 0 0 none 0 0 ((ws.length : Int) == 1)) ⟨⟨_, (by kernel_rfl), ldN (T := 53) (i := 0) (m := 16) (l := (Value.cells (gotV 9 GOp.zero 0 0 0 none 0 0 ((ws.length : Int) == 1))).toList) hb85⟩, trivial⟩ (k := ?_)
                          exact ⟨(⟨⟨9, (⟨0, ⟨0, 0, 0, 0, 0⟩, false, 0, 0, 0⟩ : GOp), 0, 0, 0, []⟩, none, 0⟩ : GCmd), (ws.length : Int) == 1, rfl, OwAt.nil, (by simp [blk]), (q_nil (kw := kStart) (hr23.trans (congrArg some ph83)) qb_start), (by simp), K⟩
                        · have ph83 := of_decide_eq_false h83
                          refine WC.seq ?_
                          refine WC.region ?_
                          refine WL.opE (d := 171) (.bool (ByteArray.toList ⟨(r22).toArray⟩ == ByteArray.toList ⟨([99, 114, 97, 115, 104]).toArray⟩)) (v := .bool (decide (r22 = [99, 114, 97, 115, 104]))) (str_eql _ _) (k := ?_)
                          refine WL.op (d := 170) (.bool (decide (r22 = [99, 114, 97, 115, 104]))) (k := ?_)
                          refine WL.nil ?_
                          refine WX.seqN ?_
                          refine WC.cond (b := decide (r22 = [99, 114, 97, 115, 104])) (ht := fun h87 => ?_) (hf := fun h87 => ?_)
                          · have ph87 := of_decide_eq_true h87
                            refine WC.seq ?_
                            refine WC.region ?_
                            refine WL.op (d := 172) (.slice A ws.length cp) (k := ?_)
                            have hs88 := SlAt.cutD (a := 1) (c := cp) hA (by omega) (by omega)
                            refine WL.cut (d := 173) (vx := .slice A ws.length cp) (lo' := (some (.int .i64 1))) (hi' := none) (mx' := none) (v := .slice (cutA A cp 1 1) ((List.drop 1 ws).length) (cp - 1)) (run_cutSl (a := 1) (b := ws.length) (c := cp) (m := 1) (E := 9) (by kernel_rfl) (by kernel_rfl) (.inl ⟨rfl, rfl⟩) (.inl ⟨rfl, rfl, rfl⟩) (.inr ⟨_, _, rfl, by omega⟩) (by omega) (by omega) rfl (by simp <;> omega) (by omega)) (k := ?_)
                            refine WL.callG (d := 174) (f := 50) (args := #[.slice (cutA A cp 1 1) ((List.drop 1 ws).length) (cp - 1)]) (u25fates_c (cp := (cp - 1)) (hs88.adds K) (by simp; omega) (fun y hy => hx y (List.mem_of_mem_drop hy))) (k := fun e_ w89 h_ => ?_)
                            obtain ⟨g90, is91, rfl, ho92, ol93, hq94, hl95, k96⟩ := h_
                            refine ⟨_, rfl, ?_⟩
                            have ol97 := fun i h => Nat.le_trans K.size (ol93 i h)
                            replace hb4 := k96.heap hb4 id
                            replace hb10 := k96.heap hb10 id
                            replace K := K.trans (k96.any _)
                            clear ol93
                            refine WL.store (v := gotV g90.p.kind g90.p.op g90.p.id g90.p.work g90.p.n g90.A g90.p.fs.length g90.cap is91) (i := 0) (cs' := (Value.cells (gotV g90.p.kind g90.p.op g90.p.id g90.p.work g90.p.n g90.A g90.p.fs.length g90.cap is91))) hb4 (k := fun w98 hb99 k100 => ?_)
                            replace hb10 := k100.heap hb10 (Ne.symm n13)
                            replace ho92 := ho92.keeps k100 (fun i hi e => (ho92.offT hb4 (by decide)) (e ▸ hi))
                            replace K := K.trans' k100 (fun i hi e => absurd (e ▸ hi) (Nat.not_lt.2 z6))
                            clear hb4
                            refine WL.nil ?_
                            refine WX.seqN ?_
                            refine WC.ret ?_
                            refine WX.blockR ?_
                            refine WX.seqR ?_
                            refine WX.ret (rs := [.cell 2 53]) [gotV g90.p.kind g90.p.op g90.p.id g90.p.work g90.p.n g90.A g90.p.fs.length g90.cap is91] (gotV g90.p.kind g90.p.op g90.p.id g90.p.work g90.p.n g90.A g90.p.fs.length g90.cap is91) ⟨⟨_, (by kernel_rfl), ldN (T := 53) (i := 0) (m := 16) (l := (Value.cells (gotV g90.p.kind g90.p.op g90.p.id g90.p.work g90.p.n g90.A g90.p.fs.length g90.cap is91)).toList) hb99⟩, trivial⟩ (k := ?_)
                            exact ⟨g90, is91, rfl, ho92, ol97, (by rw [ws_cons (hr23.trans (congrArg some ph87) : ws[0]? = some kCrash)]; exact hq94), (by simp only [List.length_cons, List.length_drop] at hl95; omega), K⟩
                          · have ph87 := of_decide_eq_false h87
                            refine WC.skip ?_
                            refine WX.blockN ?_
                            refine WX.seqN ?_
                            refine WC.seq ?_
                            refine WC.region ?_
                            refine WL.op (d := 175) (gotV 0 GOp.zero 0 0 0 none 0 0 false) (k := ?_)
                            refine WL.store (v := gotV 0 GOp.zero 0 0 0 none 0 0 false) (i := 0) (cs' := (Value.cells (gotV 0 GOp.zero 0 0 0 none 0 0 false))) hb4 (k := fun w101 hb102 k103 => ?_)
                            replace hb10 := k103.heap hb10 (Ne.symm n13)
                            replace K := K.trans' k103 (fun i hi e => absurd (e ▸ hi) (Nat.not_lt.2 z6))
                            clear hb4
                            refine WL.nil ?_
                            refine WX.seqN ?_
                            refine WC.ret ?_
                            refine WX.ret (rs := [.cell 2 53]) [gotV 0 GOp.zero 0 0 0 none 0 0 false] (gotV 0 GOp.zero 0 0 0 none 0 0 false) ⟨⟨_, (by kernel_rfl), ldN (T := 53) (i := 0) (m := 16) (l := (Value.cells (gotV 0 GOp.zero 0 0 0 none 0 0 false)).toList) hb102⟩, trivial⟩ (k := ?_)
                            exact ⟨(⟨⟨0, (⟨0, ⟨0, 0, 0, 0, 0⟩, false, 0, 0, 0⟩ : GOp), 0, 0, 0, []⟩, none, 0⟩ : GCmd), false, rfl, OwAt.nil, (by simp [blk]), (q_other hr23 (fun k_ => by rcases k_ with k_ | k_ | k_ | k_ | k_ | k_ | k_ | k_ <;> first | exact ph51 k_ | exact ph59 k_ | exact ph67 k_ | exact ph71 k_ | exact ph75 k_ | exact ph79 k_ | exact ph83 k_ | exact ph87 k_) (fun k_ => k_.elim ph27 ph31) ph35 ph39 ph47), (by simp), K⟩
end Go.Proofs.YtoeinhlmkpgjhaaGreatDoor
