/- Ln23, Lq3, Lq4, Gbz, Args0, SlArgs, OpArgs, CmdArgs: one behind the other. -/
import Derived.Test.YtoeinhlmkpgjhaaGreatDoorPz4
namespace Go.Proofs.YtoeinhlmkpgjhaaGreatDoor
open Go.RowKit
set_option linter.unusedVariables false
set_option linter.unusedSimpArgs false
set_option maxRecDepth 100000 in
set_option maxHeartbeats 4000000 in
theorem l25few_c {L : Option Addr} {lc : Nat} {l : List GCmd} {w : World} (hL : SlAt cmdC 15 39 L l w) (hF : Fts 9223372036854775807 l w) (hl : l.length ≤ 9223372036854775807) : Calls Tryz.prog 12 #[.slice L l.length lc] w fun e w' => ∃ A c, e = .returned (.slice A (fewL l).length c) ∧ OwAt cmdC 15 39 A c (fewL l) w' ∧ Adds w w' ∧ (∀ i, blk A = some i → w.heap.size ≤ i) := by
  have K : Keeps (fun _ => False) w w := Keeps.refl _ w
  refine Calls.start Tryz.func12 rfl (by kernel_rfl) ?_
  refine WC.seq ?_
  refine WC.region ?_
  refine WL.op (d := 2) (.slice none 0 0) (k := ?_)
  refine WL.nil ?_
  refine WX.seqN ?_
  refine WC.seq ?_
  refine WC.region ?_
  refine WL.op (d := 3) (.slice none 0 0) (k := ?_)
  refine WL.nil ?_
  refine WX.seqN ?_
  refine WC.seq ?_
  refine WC.seq ?_
  refine WC.region ?_
  refine WL.op (d := 4) (.int .i64 0) (k := ?_)
  refine WL.nil ?_
  refine WX.seqN ?_
  refine WC.block ?_
  refine WC.loop (ι := Int × (Option Addr) × Nat) (fun (⟨i, Ao, co⟩ : Int × (Option Addr) × Nat) => [(0, .slice L l.length lc), (2, .slice none 0 0), (4, .int .i64 i), (3, .slice Ao ((fewU l i).length) co)]) (fun (⟨i, Ao, co⟩ : Int × (Option Addr) × Nat) (w_ : World) => (Keeps (fun _ => False) w w_) ∧ (OwAt cmdC 15 39 Ao co (fewU l i) w_) ∧ (∀ i, blk Ao = some i → w.heap.size ≤ i) ∧ (0 ≤ i) ∧ (i ≤ l.length) ∧ (i ≤ 6)) (fun (⟨i, Ao, co⟩ : Int × (Option Addr) × Nat) => (l.length - i).toNat) (0, none, 0) ⟨(by kernel_rfl), (by kernel_rfl), (by kernel_rfl), (by kernel_rfl), trivial⟩ ⟨K, OwAt.nil, (by simp [blk]), Int.le_refl 0, (by omega), (by decide)⟩ ?_
  rintro ⟨i, Ao, co⟩ w1 ⟨K, hb2, ol3, i0, i1, i6⟩
  have lm_ := fewU_len l i6
  refine WC.seq ?_
  refine WC.seq ?_
  refine WC.region ?_
  refine WL.op (d := 6) (.int .i64 i) (k := ?_)
  refine WL.op (d := 7) (.slice L l.length lc) (k := ?_)
  refine WL.op (d := 8) (.int .i64 (l.length : Int)) (k := ?_)
  refine WL.op (d := 9) (.bool (decide (i < (l.length : Int)))) (k := ?_)
  refine WL.op (d := 10) (.bool (decide (i < (l.length : Int)))) (k := ?_)
  refine bsplit (decide (i < (l.length : Int))) (fun h4 => ?_) (fun h4 => ?_)
  · have ph4 := of_decide_eq_true h4
    refine WL.rw (t := 10) (v := .bool true) (congrArg Value.bool h4) (k := ?_)
    refine WL.op (d := 11) (.int .i64 i) (k := ?_)
    refine WL.op (d := 12) (.bool (decide (i < 6))) (k := ?_)
    refine WL.op (d := 13) (.bool (decide (i < 6))) (k := ?_)
    refine WL.nil ?_
    refine WX.seqN ?_
    refine WC.cond (b := decide (i < 6)) (ht := fun h5 => ?_) (hf := fun h5 => ?_)
    · have ph5 := of_decide_eq_true h5
      refine WC.skip ?_
      refine WX.seqN ?_
      refine WC.seq ?_
      refine WC.block ?_
      refine WC.seq ?_
      refine WC.region ?_
      refine WL.op (d := 16) (.slice L l.length lc) (k := ?_)
      refine WL.op (d := 17) (.int .i64 i) (k := ?_)
      obtain ⟨b6, o7, r8, hr9, hA10, he11⟩ := SlAt.at hL (i := i) (by omega) (by omega)
      refine WL.rw (t := 16) (v := .slice (some ⟨b6, o7, none⟩) l.length lc) (congrArg (fun a => Value.slice a l.length lc) hA10) (k := ?_)
      obtain ⟨hs12, hc13, hl14⟩ := fts_mem hF hr9
      refine WL.idx (T := 24) (E := 39) (m := 15) (b := b6) (o := o7) (len := l.length) (cap := lc) (i := i) (kk := .i64) (d := 18) (by omega) (by omega) (k := ?_)
      refine WL.rw (t := 16) (v := .slice L l.length lc) (congrArg (fun a => Value.slice a l.length lc) (Eq.symm hA10)) (k := ?_)
      refine WL.load (v := GCmd.val r8) ((he11.adds K).ldW (T := 39)) (k := ?_)
      refine WL.new (d := 5) (T := 39) #[.int .i64 0, .int .i64 0, .int .i64 0, .int .i64 0, .int .i64 0, .int .i64 0, .int .i64 0, .bool false, .int .i64 0, .int .i64 0, .int .i64 0, .int .i64 0, .int .i64 0, .int .i64 0, .slice none 0 0] (k := fun b15 w16 g17 hb18 k19 => ?_)
      have z20 := Nat.le_trans K.size g17
      have n21 := OwAt.off_new hb2 g17
      replace hb2 := hb2.adds k19
      replace K := K.trans (k19.any _)
      refine WL.store (v := GCmd.val r8) (i := 0) (cs' := (Value.cells (GCmd.val r8))) hb18 (k := fun w22 hb23 k24 => ?_)
      replace hb2 := hb2.keeps k24 (fun i hi e => (n21) (e ▸ hi))
      replace K := K.trans' k24 (fun i hi e => absurd (e ▸ hi) (Nat.not_lt.2 z20))
      clear hb18
      refine WL.nil ?_
      refine WX.seqN ?_
      refine WC.seq ?_
      refine WC.seq ?_
      refine WC.region ?_
      refine WL.op (d := 20) (.pointer (some ⟨b15, 14, none⟩)) (k := ?_)
      refine WL.load (v := .slice r8.A r8.p.fs.length r8.cap) (ld1 (T := 37) (i := 14) hb23) (k := ?_)
      refine WL.op (d := 22) (.int .i64 (r8.p.fs.length : Int)) (k := ?_)
      refine WL.op (d := 23) (.bool (decide ((r8.p.fs.length : Int) > 66))) (k := ?_)
      refine WL.nil ?_
      refine WX.seqN ?_
      refine WC.cond (b := decide ((r8.p.fs.length : Int) > 66)) (ht := fun h25 => ?_) (hf := fun h25 => ?_)
      · have ph25 := of_decide_eq_true h25
        refine WC.region ?_
        refine WL.op (d := 24) (.pointer (some ⟨b15, 14, none⟩)) (k := ?_)
        refine WL.load (v := .slice r8.A r8.p.fs.length r8.cap) (ld1 (T := 37) (i := 14) hb23) (k := ?_)
        have hs26 := SlAt.cutT (b := 66) (c := r8.cap) hs12 (by omega) (by omega)
        refine WL.cut (d := 26) (vx := .slice r8.A r8.p.fs.length r8.cap) (lo' := none) (hi' := (some (.int .i64 66))) (mx' := none) (v := .slice r8.A ((List.take 66 r8.p.fs).length) r8.cap) (run_cutSl (a := 0) (b := 66) (c := r8.cap) (m := 2) (E := 72) (by kernel_rfl) (by kernel_rfl) (.inl ⟨rfl, rfl⟩) (.inr ⟨_, _, rfl, by omega⟩) (.inl ⟨rfl, rfl⟩) (by omega) (by omega) (cutA_zero _ _ _) (by simp <;> omega) (by omega)) (k := ?_)
        refine WL.op (d := 27) (.pointer (some ⟨b15, 14, none⟩)) (k := ?_)
        refine WL.store (v := .slice r8.A ((List.take 66 r8.p.fs).length) r8.cap) (i := 14) (cs' := #[.int .i64 r8.p.kind, .int .i64 r8.p.op.kind, .int .i64 r8.p.op.task.id, .int .i64 r8.p.op.task.c, .int .i64 r8.p.op.task.d, .int .i64 r8.p.op.task.t, .int .i64 r8.p.op.task.m, .bool r8.p.op.sv, .int .i64 r8.p.op.id, .int .i64 r8.p.op.c, .int .i64 r8.p.op.m, .int .i64 r8.p.id, .int .i64 r8.p.work, .int .i64 r8.p.n, .slice r8.A ((List.take 66 r8.p.fs).length) r8.cap]) hb23 (k := fun w27 hb28 k29 => ?_)
        replace hb2 := hb2.keeps k29 (fun i hi e => (n21) (e ▸ hi))
        replace K := K.trans' k29 (fun i hi e => absurd (e ▸ hi) (Nat.not_lt.2 z20))
        clear hb23
        refine WL.nil ?_
        refine WX.seqN ?_
        refine WC.region ?_
        refine WL.op (d := 28) (.slice Ao ((fewU l i).length) co) (k := ?_)
        refine WL.load (v := .agg #[.int .i64 r8.p.kind, .int .i64 r8.p.op.kind, .int .i64 r8.p.op.task.id, .int .i64 r8.p.op.task.c, .int .i64 r8.p.op.task.d, .int .i64 r8.p.op.task.t, .int .i64 r8.p.op.task.m, .bool r8.p.op.sv, .int .i64 r8.p.op.id, .int .i64 r8.p.op.c, .int .i64 r8.p.op.m, .int .i64 r8.p.id, .int .i64 r8.p.work, .int .i64 r8.p.n, .slice r8.A ((List.take 66 r8.p.fs).length) r8.cap]) (ldN (T := 39) (i := 0) (m := 15) (l := [.int .i64 r8.p.kind, .int .i64 r8.p.op.kind, .int .i64 r8.p.op.task.id, .int .i64 r8.p.op.task.c, .int .i64 r8.p.op.task.d, .int .i64 r8.p.op.task.t, .int .i64 r8.p.op.task.m, .bool r8.p.op.sv, .int .i64 r8.p.op.id, .int .i64 r8.p.op.c, .int .i64 r8.p.op.m, .int .i64 r8.p.id, .int .i64 r8.p.work, .int .i64 r8.p.n, .slice r8.A ((List.take 66 r8.p.fs).length) r8.cap]) hb28) (k := ?_)
        refine WL.newF (d := 30) (T := 39) #[.int .i64 r8.p.kind, .int .i64 r8.p.op.kind, .int .i64 r8.p.op.task.id, .int .i64 r8.p.op.task.c, .int .i64 r8.p.op.task.d, .int .i64 r8.p.op.task.t, .int .i64 r8.p.op.task.m, .bool r8.p.op.sv, .int .i64 r8.p.op.id, .int .i64 r8.p.op.c, .int .i64 r8.p.op.m, .int .i64 r8.p.id, .int .i64 r8.p.work, .int .i64 r8.p.n, .slice r8.A ((List.take 66 r8.p.fs).length) r8.cap] (fun b => .slice (some ⟨b, 0, none⟩) 1 1) (k := fun b30 w31 g32 hb33 k34 => ?_)
        have z35 := Nat.le_trans K.size g32
        have n36 := OwAt.off_new hb2 g32
        have n37 : b15 ≠ b30 := Nat.ne_of_lt (Nat.lt_of_lt_of_le (lt_of_heap hb28) g32)
        replace hb2 := hb2.adds k34
        replace hb28 := k34.heap hb28 id
        replace K := K.trans (k34.any _)
        refine WL.append (d := 31) (T := 24) (cl := cmdC) (xs := fewU l i) (ys := [(⟨⟨r8.p.kind, r8.p.op, r8.p.id, r8.p.work, r8.p.n, List.take 66 r8.p.fs⟩, r8.A, r8.cap⟩ : GCmd)]) (c := 1) ekCmd hb2 (SlAt.of_lit (ys := [(⟨⟨r8.p.kind, r8.p.op, r8.p.id, r8.p.work, r8.p.n, List.take 66 r8.p.fs⟩, r8.A, r8.cap⟩ : GCmd)]) ekCmd hb33 (by kernel_rfl)) (by simp; omega) (k := fun A38 c39 w40 ho41 k42 n43 => ?_)
        have ol44 := olink_step ol3 K n43
        have n45 := off_step n43 n21 (lt_of_heap hb28)
        replace hb28 := k42.heap hb28 n21
        replace K := K.trans' k42 (fun i hi e => absurd hi (Nat.not_lt.2 (ol3 i e)))
        clear hb2
        refine WL.op (d := 3) (.slice A38 ((fewU l i ++ [(⟨⟨r8.p.kind, r8.p.op, r8.p.id, r8.p.work, r8.p.n, List.take 66 r8.p.fs⟩, r8.A, r8.cap⟩ : GCmd)]).length) c39) (k := ?_)
        refine WL.nil ?_
        refine WX.blockN ?_
        refine WX.seqN ?_
        refine WC.region ?_
        refine WL.op (d := 14) (.int .i64 i) (k := ?_)
        refine WL.opE (d := 15) (.int .i64 (IntKind.i64.wrap (i + 1))) (v := .int .i64 (i + 1)) (congrArg (Value.int .i64) (IntWalk.i64_in _ (by omega))) (k := ?_)
        refine WL.op (d := 4) (.int .i64 (i + 1)) (k := ?_)
        refine WL.nil ?_
        have e46 : fewU l i ++ [(⟨⟨r8.p.kind, r8.p.op, r8.p.id, r8.p.work, r8.p.n, List.take 66 r8.p.fs⟩, r8.A, r8.cap⟩ : GCmd)] = fewU l (i + 1) := few_s1 i0 hr9 ph25
        rw [e46] at ho41
        refine WX.rw (t := 3) (v := .slice A38 ((fewU l (i + 1)).length) c39) (congrArg (fun l => Value.slice A38 (List.length l) c39) e46) (k := ?_)
        refine WX.round (i + 1, A38, c39) (by show (l.length - (i + 1)).toNat < (l.length - i).toNat; omega) ⟨(by kernel_rfl), (by kernel_rfl), (by kernel_rfl), (by kernel_rfl), trivial⟩ ⟨K, ho41, ol44, (by omega), (by omega), (by omega)⟩
      · have ph25 := of_decide_eq_false h25
        refine WC.skip ?_
        refine WX.seqN ?_
        refine WC.region ?_
        refine WL.op (d := 28) (.slice Ao ((fewU l i).length) co) (k := ?_)
        refine WL.load (v := GCmd.val r8) (ldN (T := 39) (i := 0) (m := 15) (l := (Value.cells (GCmd.val r8)).toList) hb23) (k := ?_)
        refine WL.newF (d := 30) (T := 39) (Value.cells (GCmd.val r8)) (fun b => .slice (some ⟨b, 0, none⟩) 1 1) (k := fun b47 w48 g49 hb50 k51 => ?_)
        have z52 := Nat.le_trans K.size g49
        have n53 := OwAt.off_new hb2 g49
        have n54 : b15 ≠ b47 := Nat.ne_of_lt (Nat.lt_of_lt_of_le (lt_of_heap hb23) g49)
        replace hb2 := hb2.adds k51
        replace hb23 := k51.heap hb23 id
        replace K := K.trans (k51.any _)
        refine WL.append (d := 31) (T := 24) (cl := cmdC) (xs := fewU l i) (ys := [r8]) (c := 1) ekCmd hb2 (SlAt.of_lit (ys := [r8]) ekCmd hb50 (by kernel_rfl)) (by simp; omega) (k := fun A55 c56 w57 ho58 k59 n60 => ?_)
        have ol61 := olink_step ol3 K n60
        have n62 := off_step n60 n21 (lt_of_heap hb23)
        replace hb23 := k59.heap hb23 n21
        replace K := K.trans' k59 (fun i hi e => absurd hi (Nat.not_lt.2 (ol3 i e)))
        clear hb2
        refine WL.op (d := 3) (.slice A55 ((fewU l i ++ [r8]).length) c56) (k := ?_)
        refine WL.nil ?_
        refine WX.blockN ?_
        refine WX.seqN ?_
        refine WC.region ?_
        refine WL.op (d := 14) (.int .i64 i) (k := ?_)
        refine WL.opE (d := 15) (.int .i64 (IntKind.i64.wrap (i + 1))) (v := .int .i64 (i + 1)) (congrArg (Value.int .i64) (IntWalk.i64_in _ (by omega))) (k := ?_)
        refine WL.op (d := 4) (.int .i64 (i + 1)) (k := ?_)
        refine WL.nil ?_
        have e63 : fewU l i ++ [r8] = fewU l (i + 1) := few_s2 i0 hr9 ph25
        rw [e63] at ho58
        refine WX.rw (t := 3) (v := .slice A55 ((fewU l (i + 1)).length) c56) (congrArg (fun l => Value.slice A55 (List.length l) c56) e63) (k := ?_)
        refine WX.round (i + 1, A55, c56) (by show (l.length - (i + 1)).toNat < (l.length - i).toNat; omega) ⟨(by kernel_rfl), (by kernel_rfl), (by kernel_rfl), (by kernel_rfl), trivial⟩ ⟨K, ho58, ol61, (by omega), (by omega), (by omega)⟩
    · have ph5 := of_decide_eq_false h5
      refine WC.exit ?_
      refine WX.seqE ?_
      refine WX.seqE ?_
      refine WX.blockE ?_
      refine WX.seqN ?_
      refine WC.seq ?_
      refine WC.region ?_
      refine WL.op (d := 32) (.slice Ao ((fewU l i).length) co) (k := ?_)
      refine WL.op (d := 2) (.slice Ao ((fewU l i).length) co) (k := ?_)
      refine WL.nil ?_
      refine WX.seqN ?_
      refine WC.ret ?_
      refine WX.ret (rs := [.tmp 2]) [.slice Ao ((fewU l i).length) co] (.slice Ao ((fewU l i).length) co) ⟨(by kernel_rfl), trivial⟩ (k := ?_)
      have e_ : fewU l i = fewL l := few_end i0 i6 (by omega)
      rw [e_] at hb2 ⊢
      exact ⟨_, _, rfl, hb2, K, ol3⟩
  · have ph4 := of_decide_eq_false h4
    refine WL.rw (t := 10) (v := .bool false) (congrArg Value.bool h4) (k := ?_)
    refine WL.skip (d := 11) (k := ?_)
    refine WL.skip (d := 12) (k := ?_)
    refine WL.op (d := 13) (.bool false) (k := ?_)
    refine WL.nil ?_
    refine WX.seqN ?_
    refine WC.condF (k := ?_)
    refine WC.exit ?_
    refine WX.seqE ?_
    refine WX.seqE ?_
    refine WX.blockE ?_
    refine WX.seqN ?_
    refine WC.seq ?_
    refine WC.region ?_
    refine WL.op (d := 32) (.slice Ao ((fewU l i).length) co) (k := ?_)
    refine WL.op (d := 2) (.slice Ao ((fewU l i).length) co) (k := ?_)
    refine WL.nil ?_
    refine WX.seqN ?_
    refine WC.ret ?_
    refine WX.ret (rs := [.tmp 2]) [.slice Ao ((fewU l i).length) co] (.slice Ao ((fewU l i).length) co) ⟨(by kernel_rfl), trivial⟩ (k := ?_)
    have e_ : fewU l i = fewL l := few_end i0 i6 (by omega)
    rw [e_] at hb2 ⊢
    exact ⟨_, _, rfl, hb2, K, ol3⟩
set_option maxRecDepth 100000 in
set_option maxHeartbeats 4000000 in
theorem lnText_c {A : Option Addr} {cp : Nat} {xs : List GCmd} {w : World} (hG : GB w) (hA : SlAt cmdC 15 39 A xs w) (hF : Fts 1000000000 xs w) (hn : xs.length ≤ 1000) : Calls Tryz.prog 15 #[.slice A xs.length cp] w fun e w' => e = .returned (.string ⟨(textW (xs.map GCmd.p)).toArray⟩) ∧ Adds w w' := by
  have K : Keeps (fun _ => False) w w := Keeps.refl _ w
  refine Calls.start Tryz.func15 rfl (by kernel_rfl) ?_
  refine WC.seq ?_
  refine WC.region ?_
  refine WL.op (d := 2) (.string ⟨#[]⟩) (k := ?_)
  refine WL.nil ?_
  refine WX.seqN ?_
  refine WC.seq ?_
  refine WC.region ?_
  refine WL.new (d := 3) (T := 76) #[.pointer none, .slice none 0 0] (k := fun b1 w2 g3 hb4 k5 => ?_)
  have z6 := Nat.le_trans K.size g3
  replace K := K.trans (k5.any _)
  have hw7 := BuR.newW hb4
  have lk8 : WLink w none none := .inl rfl
  clear hb4
  refine WL.nil ?_
  refine WX.seqN ?_
  refine WC.seq ?_
  refine WC.seq ?_
  refine WC.region ?_
  refine WL.op (d := 7) (.slice A xs.length cp) (k := ?_)
  refine WL.op (d := 8) (.int .i64 (xs.length : Int)) (k := ?_)
  refine WL.op (d := 9) (.int .i64 0) (k := ?_)
  refine WL.nil ?_
  refine WX.seqN ?_
  refine WC.block ?_
  rw [show [] = txU xs 0 from rfl] at hw7
  refine WC.loop (ι := Int × (Option Nat)) (fun (⟨i, ro⟩ : Int × (Option Nat)) => [(0, .slice A xs.length cp), (3, .pointer (some ⟨b1, 0, none⟩)), (7, .slice A xs.length cp), (8, .int .i64 (xs.length : Int)), (9, .int .i64 i)]) (fun (⟨i, ro⟩ : Int × (Option Nat)) (w_ : World) => (Keeps (fun _ => False) w w_) ∧ (BuR 76 0 b1 ro (txU xs i) w_) ∧ (WLink w none ro) ∧ (0 ≤ i) ∧ (i ≤ xs.length) ∧ (upL xs i)) (fun (⟨i, ro⟩ : Int × (Option Nat)) => (xs.length - i).toNat) (0, none) ⟨(by kernel_rfl), (by kernel_rfl), (by kernel_rfl), (by kernel_rfl), (by kernel_rfl), trivial⟩ ⟨K, hw7, lk8, Int.le_refl 0, (by omega), (upL_zero xs)⟩ ?_
  rintro ⟨i, ro⟩ w9 ⟨K, hb10, lk11, i0, i1, iu⟩
  have lu_ := txU_len (xs := xs) i (by omega)
  refine WC.seq ?_
  refine WC.region ?_
  refine WL.op (d := 10) (.bool (decide (i < (xs.length : Int)))) (k := ?_)
  refine WL.nil ?_
  refine WX.seqN ?_
  refine WC.seq ?_
  refine WC.cond (b := decide (i < (xs.length : Int))) (ht := fun h12 => ?_) (hf := fun h12 => ?_)
  · have ph12 := of_decide_eq_true h12
    refine WC.skip ?_
    refine WX.seqN ?_
    refine WC.seq ?_
    refine WC.block ?_
    refine WC.seq ?_
    refine WC.region ?_
    obtain ⟨b13, o14, r15, hr16, hA17, he18⟩ := SlAt.at hA (i := i) (by omega) (by omega)
    refine WL.rw (t := 7) (v := .slice (some ⟨b13, o14, none⟩) xs.length cp) (congrArg (fun a => Value.slice a xs.length cp) hA17) (k := ?_)
    obtain ⟨hs19, hc20, hl21⟩ := fts_mem hF hr16
    refine WL.idx (T := 24) (E := 39) (m := 15) (b := b13) (o := o14) (len := xs.length) (cap := cp) (i := i) (kk := .i64) (d := 11) (by omega) (by omega) (k := ?_)
    refine WL.rw (t := 7) (v := .slice A xs.length cp) (congrArg (fun a => Value.slice a xs.length cp) (Eq.symm hA17)) (k := ?_)
    refine WL.load (v := GCmd.val r15) ((he18.adds K).ldW (T := 39)) (k := ?_)
    refine WL.new (d := 5) (T := 39) #[.int .i64 0, .int .i64 0, .int .i64 0, .int .i64 0, .int .i64 0, .int .i64 0, .int .i64 0, .bool false, .int .i64 0, .int .i64 0, .int .i64 0, .int .i64 0, .int .i64 0, .int .i64 0, .slice none 0 0] (k := fun b22 w23 g24 hb25 k26 => ?_)
    have z27 := Nat.le_trans K.size g24
    have n28 : b1 ≠ b22 := Nat.ne_of_lt (Nat.lt_of_lt_of_le hb10.ltb g24)
    replace hb10 := hb10.movA k26
    replace K := K.trans (k26.any _)
    refine WL.store (v := GCmd.val r15) (i := 0) (cs' := (Value.cells (GCmd.val r15))) hb25 (k := fun w29 hb30 k31 => ?_)
    replace hb10 := hb10.mov1 k31 n28 (hb10.offT hb25 (by decide))
    replace K := K.trans' k31 (fun i hi e => absurd (e ▸ hi) (Nat.not_lt.2 z27))
    clear hb25
    refine WL.nil ?_
    refine WX.seqN ?_
    refine WC.seq ?_
    refine WC.region ?_
    refine WL.load (v := GCmd.val r15) (ldN (T := 39) (i := 0) (m := 15) (l := (Value.cells (GCmd.val r15)).toList) hb30) (k := ?_)
    refine WL.callG (d := 14) (f := 13) (args := #[GCmd.val r15]) (lnLine_c (c := r15) (hG.keeps K (fun _ _ x => x)) (hs19.adds K) (by first | omega | simp)) (k := fun e_ w33 h_ => ⟨.string ⟨(lineW r15.p).toArray⟩, h_.1, ?_⟩)
    have k34 := h_.2; clear h_
    replace hb10 := hb10.movA k34
    replace hb30 := k34.heap hb30 id
    replace K := K.trans (k34.any _)
    have ll32 := lineW_le r15.p
    refine WL.op (d := 6) (.string ⟨(lineW r15.p).toArray⟩) (k := ?_)
    refine WL.nil ?_
    refine WX.seqN ?_
    refine WC.seq ?_
    refine WC.seq ?_
    refine WC.region ?_
    refine WL.op (d := 15) (.string ⟨(lineW r15.p).toArray⟩) (k := ?_)
    refine WL.opE (d := 16) (.bool (ByteArray.toList ⟨(lineW r15.p).toArray⟩ == ByteArray.toList ⟨([]).toArray⟩)) (v := .bool (decide (lineW r15.p = []))) (str_eql _ _) (k := ?_)
    refine WL.nil ?_
    refine WX.seqN ?_
    refine WC.cond (b := decide (lineW r15.p = [])) (ht := fun h35 => ?_) (hf := fun h35 => ?_)
    · have ph35 := of_decide_eq_true h35
      refine WC.seq ?_
      refine WC.region ?_
      refine WL.op (d := 2) (.string ⟨#[]⟩) (k := ?_)
      refine WL.nil ?_
      refine WX.seqN ?_
      refine WC.ret ?_
      refine WX.seqR ?_
      refine WX.blockR ?_
      refine WX.seqR ?_
      refine WX.seqR ?_
      refine WX.blockR ?_
      refine WX.seqR ?_
      refine WX.ret (rs := [.tmp 2]) [.string ⟨#[]⟩] (.string ⟨#[]⟩) ⟨(by kernel_rfl), trivial⟩ (k := ?_)
      exact ⟨by rw [textW_no hr16 ph35], K⟩
    · have ph35 := of_decide_eq_false h35
      refine WC.skip ?_
      refine WX.seqN ?_
      refine WC.region ?_
      refine WL.op (d := 17) (.string ⟨(lineW r15.p).toArray⟩) (k := ?_)
      refine WL.bin (d := 18) (v := .string ⟨((lineW r15.p) ++ [10]).toArray⟩) (cat_run (by (try simp only [List.length_append, List.length_cons, List.length_nil]); omega)) (k := ?_)
      obtain ⟨Y18, hY18, lY18⟩ : ∃ Y, (lineW r15.p) ++ [10] = Y ∧ Y.length ≤ 17000 := ⟨_, rfl, by simp only [List.length_append, List.length_cons, List.length_nil]; omega⟩
      refine WL.rw (t := 18) (v := .string ⟨(Y18).toArray⟩) (congrArg (fun l : List UInt8 => Value.string ⟨l.toArray⟩) hY18) (k := ?_)
      refine WL.callG (d := 19) (f := 41) (args := #[.pointer (some ⟨b1, 0, none⟩), .string ⟨(Y18).toArray⟩]) (bWriteString_s _ _ _ Y18 _ (by (try simp only [List.length_append, List.length_cons, List.length_nil]); omega) hb10 (by (try simp only [List.length_append, List.length_cons, List.length_nil]); omega)) (k := fun e_ w36 h_ => ?_)
      obtain ⟨rfl, r37, hw38, n39, k40⟩ := h_
      refine ⟨_, rfl, ?_⟩
      have lk41 := lk11.step K n39
      replace hb30 := k40.heap hb30 (not_or.2 ⟨Ne.symm n28, hb10.offT hb30 (by decide)⟩)
      replace K := K.trans' k40 (WLink.own lk11 z6 _)
      clear hb10 n39 lk11
      refine WL.nil ?_
      refine WX.blockN ?_
      refine WX.seqN ?_
      refine WC.region ?_
      refine WL.opE (d := 20) (.int .i64 (IntKind.i64.wrap (i + 1))) (v := .int .i64 (i + 1)) (congrArg (Value.int .i64) (IntWalk.i64_in _ (by omega))) (k := ?_)
      refine WL.op (d := 9) (.int .i64 (i + 1)) (k := ?_)
      refine WL.nil ?_
      have e42 : txU xs i ++ Y18 = txU xs (i + 1) := hY18 ▸ txU_succ i0 hr16
      rw [e42] at hw38
      refine WX.round (i + 1, r37) (by show (xs.length - (i + 1)).toNat < (xs.length - i).toNat; omega) ⟨(by kernel_rfl), (by kernel_rfl), (by kernel_rfl), (by kernel_rfl), (by kernel_rfl), trivial⟩ ⟨K, hw38, lk41, (by omega), (by omega), (upL_succ i0 iu hr16 ph35)⟩
  · have ph12 := of_decide_eq_false h12
    refine WC.exit ?_
    refine WX.seqE ?_
    refine WX.seqE ?_
    refine WX.blockE ?_
    refine WX.seqN ?_
    refine WC.seq ?_
    refine WC.region ?_
    refine WL.callG (d := 21) (f := 42) (args := #[.pointer (some ⟨b1, 0, none⟩)]) (bString_t _ _ _ _ hb10 (by (try simp only [List.length_append, List.length_cons, List.length_nil]); omega)) (k := fun e_ w43 h_ => ?_)
    obtain ⟨rfl, r44, hw45, n46, k47⟩ := h_
    refine ⟨_, rfl, ?_⟩
    have lk48 := lk11.step K n46
    replace K := K.trans' k47 (WLink.own lk11 z6 _)
    clear hb10 n46 lk11
    refine WL.op (d := 2) (.string ⟨(txU xs i).toArray⟩) (k := ?_)
    refine WL.nil ?_
    refine WX.seqN ?_
    refine WC.ret ?_
    refine WX.ret (rs := [.tmp 2]) [.string ⟨(txU xs i).toArray⟩] (.string ⟨(txU xs i).toArray⟩) ⟨(by kernel_rfl), trivial⟩ (k := ?_)
    exact ⟨by rw [txU_end (i := i) (by omega) iu], K⟩
end Go.Proofs.YtoeinhlmkpgjhaaGreatDoor
namespace Go.Proofs.YtoeinhlmkpgjhaaGreatDoor
open Go.RowKit
set_option linter.unusedVariables false
set_option linter.unusedSimpArgs false
set_option maxRecDepth 100000 in
set_option maxHeartbeats 4000000 in
theorem u25Line_c {c : GCmd} {w : World} (hc : SlAt fateC 2 72 c.A c.p.fs w) (lc : c.p.fs.length ≤ 1000000000) : Calls Tryz.prog 14 #[c.val] w fun e w' => e = .returned (.string ⟨(lineW c.p).toArray⟩) ∧ Adds w w' := by
  have K : Keeps (fun _ => False) w w := Keeps.refl _ w
  refine Calls.start Tryz.func14 rfl (by kernel_rfl) ?_
  refine WC.seq ?_
  refine WC.region ?_
  refine WL.new (d := 1) (T := 39) (Value.cells (GCmd.val c)) (k := fun b1 w2 g3 hb4 k5 => ?_)
  have z6 := Nat.le_trans K.size g3
  replace K := K.trans (k5.any _)
  refine WL.op (d := 2) (.string ⟨#[]⟩) (k := ?_)
  refine WL.nil ?_
  refine WX.seqN ?_
  refine WC.seq ?_
  refine WC.region ?_
  refine WL.load (v := GCmd.val c) (ldN (T := 39) (i := 0) (m := 15) (l := (Value.cells (GCmd.val c)).toList) hb4) (k := ?_)
  refine WL.callG (d := 9) (f := 26) (args := #[GCmd.val c]) (u23Check_c (c := c) (hc.adds K) (by first | omega | (simp; done) | (simp; omega))) (k := fun e_ w7 h_ => ⟨.bool (cokB c.p), h_.1, ?_⟩)
  have k8 := h_.2; clear h_
  replace hb4 := k8.heap hb4 id
  replace K := K.trans (k8.any _)
  refine WL.op (d := 3) (.bool (cokB c.p)) (k := ?_)
  refine WL.nil ?_
  refine WX.seqN ?_
  refine WC.seq ?_
  refine WC.seq ?_
  refine WC.region ?_
  refine WL.op (d := 10) (.bool (cokB c.p)) (k := ?_)
  refine WL.op (d := 11) (.bool (!(cokB c.p))) (k := ?_)
  refine WL.nil ?_
  refine WX.seqN ?_
  refine WC.cond (b := !(cokB c.p)) (ht := fun h9 => ?_) (hf := fun h9 => ?_)
  · have h10 : (cokB c.p) = false := Bool.not_inj (y := false) h9
    have ph10 := cok_f h10
    refine WC.seq ?_
    refine WC.region ?_
    refine WL.op (d := 2) (.string ⟨#[]⟩) (k := ?_)
    refine WL.nil ?_
    refine WX.seqN ?_
    refine WC.ret ?_
    refine WX.seqR ?_
    refine WX.ret (rs := [.tmp 2]) [.string ⟨#[]⟩] (.string ⟨#[]⟩) ⟨(by kernel_rfl), trivial⟩ (k := ?_)
    exact ⟨by rw [lineW_no (cok_f h10)], K⟩
  · have h11 : (cokB c.p) = true := Bool.not_inj (y := true) h9
    have ph11 := cok_t h11
    refine WC.skip ?_
    refine WX.seqN ?_
    refine WC.seq ?_
    have okc_ := cok_t h11
    obtain ⟨_, okr_, okf_, oko_⟩ := okc_
    unfold PCmd.rngs at okr_
    refine WC.region ?_
    refine WL.op (d := 12) (.pointer (some ⟨b1, 11, none⟩)) (k := ?_)
    refine WL.load (v := .int .i64 c.p.id) (ld1 (T := 3) (i := 11) hb4) (k := ?_)
    refine WL.callG (d := 14) (f := 39) (args := #[.int .i64 c.p.id]) (u25digits_c (n := c.p.id) (by omega) (by omega) w7) (k := fun e_ w13 h_ => ⟨.string ⟨(Lib.itoa c.p.id).toArray⟩, h_.1, ?_⟩)
    have k14 := h_.2; clear h_
    replace hb4 := k14.heap hb4 id
    replace K := K.trans (k14.any _)
    have il12 := itoa_le (n := c.p.id) (by omega) (by omega)
    refine WL.op (d := 4) (.string ⟨(Lib.itoa c.p.id).toArray⟩) (k := ?_)
    refine WL.nil ?_
    refine WX.seqN ?_
    refine WC.seq ?_
    refine WC.seq ?_
    refine WC.region ?_
    refine WL.op (d := 15) (.pointer (some ⟨b1, 0, none⟩)) (k := ?_)
    refine WL.load (v := .int .i64 c.p.kind) (ld1 (T := 3) (i := 0) hb4) (k := ?_)
    refine WL.nil ?_
    refine WX.seqN ?_
    refine WC.block ?_
    refine WC.seq ?_
    refine WC.region ?_
    refine WL.op (d := 18) (.bool (c.p.kind == 1)) (k := ?_)
    refine WL.op (d := 17) (.bool (c.p.kind == 1)) (k := ?_)
    refine WL.nil ?_
    refine WX.seqN ?_
    refine WC.cond (b := c.p.kind == 1) (ht := fun h15 => ?_) (hf := fun h15 => ?_)
    · have ph15 := eq_of_beq h15
      refine WC.seq ?_
      refine WC.region ?_
      refine WL.op (d := 19) (.pointer (some ⟨b1, 1, none⟩)) (k := ?_)
      refine WL.load (v := GOp.val c.p.op) (ldN (T := 36) (i := 1) (m := 10) (l := (Value.cells (GOp.val c.p.op)).toList) hb4) (k := ?_)
      refine WL.callG (d := 21) (f := 40) (args := #[GOp.val c.p.op]) (u25op_c (o := c.p.op) (oko_ ph15) w13) (k := fun e_ w16 h_ => ⟨.string ⟨(joinL 32 (opW c.p.op)).toArray⟩, h_.1, ?_⟩)
      have k17 := h_.2; clear h_
      replace hb4 := k17.heap hb4 id
      replace K := K.trans (k17.any _)
      refine WL.op (d := 2) (.string ⟨(joinL 32 (opW c.p.op)).toArray⟩) (k := ?_)
      refine WL.nil ?_
      refine WX.seqN ?_
      refine WC.ret ?_
      refine WX.blockR ?_
      refine WX.seqR ?_
      refine WX.ret (rs := [.tmp 2]) [.string ⟨(joinL 32 (opW c.p.op)).toArray⟩] (.string ⟨(joinL 32 (opW c.p.op)).toArray⟩) ⟨(by kernel_rfl), trivial⟩ (k := ?_)
      have okA_ := cok_t h11
      exact ⟨by rw [lineW_yes okA_ (fun k => absurd k (by omega)), cmdW, if_pos (by omega)]; first | done | rfl | (rw [join_two]; simp; done) | (rw [join_three]; simp; done) | (rw [joinL_one]; done), K⟩
    · have ph15 := ne_of_beq_false h15
      refine WC.seq ?_
      refine WC.region ?_
      refine WL.op (d := 23) (.bool (c.p.kind == 2)) (k := ?_)
      refine WL.op (d := 22) (.bool (c.p.kind == 2)) (k := ?_)
      refine WL.nil ?_
      refine WX.seqN ?_
      refine WC.cond (b := c.p.kind == 2) (ht := fun h18 => ?_) (hf := fun h18 => ?_)
      · have ph18 := eq_of_beq h18
        refine WC.seq ?_
        refine WC.region ?_
        refine WL.op (d := 24) (.string ⟨(Lib.itoa c.p.id).toArray⟩) (k := ?_)
        refine WL.bin (d := 25) (v := .string ⟨([114, 101, 108, 101, 97, 115, 101, 32] ++ (Lib.itoa c.p.id)).toArray⟩) (cat_run (by (try simp only [List.length_append, List.length_cons, List.length_nil]); omega)) (k := ?_)
        refine WL.bin (d := 26) (v := .string ⟨([114, 101, 108, 101, 97, 115, 101, 32] ++ (Lib.itoa c.p.id) ++ [32]).toArray⟩) (cat_run (by (try simp only [List.length_append, List.length_cons, List.length_nil]); omega)) (k := ?_)
        refine WL.op (d := 27) (.pointer (some ⟨b1, 12, none⟩)) (k := ?_)
        refine WL.load (v := .int .i64 c.p.work) (ld1 (T := 2) (i := 12) hb4) (k := ?_)
        refine WL.callG (d := 29) (f := 39) (args := #[.int .i64 c.p.work]) (u25digits_c (n := c.p.work) (by omega) (by omega) w13) (k := fun e_ w20 h_ => ⟨.string ⟨(Lib.itoa c.p.work).toArray⟩, h_.1, ?_⟩)
        have k21 := h_.2; clear h_
        replace hb4 := k21.heap hb4 id
        replace K := K.trans (k21.any _)
        have il19 := itoa_le (n := c.p.work) (by omega) (by omega)
        refine WL.bin (d := 30) (v := .string ⟨([114, 101, 108, 101, 97, 115, 101, 32] ++ (Lib.itoa c.p.id) ++ [32] ++ (Lib.itoa c.p.work)).toArray⟩) (cat_run (by (try simp only [List.length_append, List.length_cons, List.length_nil]); omega)) (k := ?_)
        refine WL.op (d := 2) (.string ⟨([114, 101, 108, 101, 97, 115, 101, 32] ++ (Lib.itoa c.p.id) ++ [32] ++ (Lib.itoa c.p.work)).toArray⟩) (k := ?_)
        refine WL.nil ?_
        refine WX.seqN ?_
        refine WC.ret ?_
        refine WX.blockR ?_
        refine WX.seqR ?_
        refine WX.ret (rs := [.tmp 2]) [.string ⟨([114, 101, 108, 101, 97, 115, 101, 32] ++ (Lib.itoa c.p.id) ++ [32] ++ (Lib.itoa c.p.work)).toArray⟩] (.string ⟨([114, 101, 108, 101, 97, 115, 101, 32] ++ (Lib.itoa c.p.id) ++ [32] ++ (Lib.itoa c.p.work)).toArray⟩) ⟨(by kernel_rfl), trivial⟩ (k := ?_)
        have okA_ := cok_t h11
        exact ⟨by rw [lineW_yes okA_ (fun k => absurd k (by omega)), cmdW, if_neg (by omega), if_pos (by omega)]; first | done | rfl | (rw [join_two]; simp; done) | (rw [join_three]; simp; done) | (rw [joinL_one]; done), K⟩
      · have ph18 := ne_of_beq_false h18
        refine WC.seq ?_
        refine WC.region ?_
        refine WL.op (d := 32) (.bool (c.p.kind == 3)) (k := ?_)
        refine WL.op (d := 31) (.bool (c.p.kind == 3)) (k := ?_)
        refine WL.nil ?_
        refine WX.seqN ?_
        refine WC.cond (b := c.p.kind == 3) (ht := fun h22 => ?_) (hf := fun h22 => ?_)
        · have ph22 := eq_of_beq h22
          refine WC.seq ?_
          refine WC.region ?_
          refine WL.op (d := 33) (.string ⟨(Lib.itoa c.p.id).toArray⟩) (k := ?_)
          refine WL.bin (d := 34) (v := .string ⟨([97, 115, 107, 32] ++ (Lib.itoa c.p.id)).toArray⟩) (cat_run (by (try simp only [List.length_append, List.length_cons, List.length_nil]); omega)) (k := ?_)
          refine WL.bin (d := 35) (v := .string ⟨([97, 115, 107, 32] ++ (Lib.itoa c.p.id) ++ [32]).toArray⟩) (cat_run (by (try simp only [List.length_append, List.length_cons, List.length_nil]); omega)) (k := ?_)
          refine WL.op (d := 36) (.pointer (some ⟨b1, 12, none⟩)) (k := ?_)
          refine WL.load (v := .int .i64 c.p.work) (ld1 (T := 2) (i := 12) hb4) (k := ?_)
          refine WL.callG (d := 38) (f := 39) (args := #[.int .i64 c.p.work]) (u25digits_c (n := c.p.work) (by omega) (by omega) w13) (k := fun e_ w24 h_ => ⟨.string ⟨(Lib.itoa c.p.work).toArray⟩, h_.1, ?_⟩)
          have k25 := h_.2; clear h_
          replace hb4 := k25.heap hb4 id
          replace K := K.trans (k25.any _)
          have il23 := itoa_le (n := c.p.work) (by omega) (by omega)
          refine WL.bin (d := 39) (v := .string ⟨([97, 115, 107, 32] ++ (Lib.itoa c.p.id) ++ [32] ++ (Lib.itoa c.p.work)).toArray⟩) (cat_run (by (try simp only [List.length_append, List.length_cons, List.length_nil]); omega)) (k := ?_)
          refine WL.op (d := 2) (.string ⟨([97, 115, 107, 32] ++ (Lib.itoa c.p.id) ++ [32] ++ (Lib.itoa c.p.work)).toArray⟩) (k := ?_)
          refine WL.nil ?_
          refine WX.seqN ?_
          refine WC.ret ?_
          refine WX.blockR ?_
          refine WX.seqR ?_
          refine WX.ret (rs := [.tmp 2]) [.string ⟨([97, 115, 107, 32] ++ (Lib.itoa c.p.id) ++ [32] ++ (Lib.itoa c.p.work)).toArray⟩] (.string ⟨([97, 115, 107, 32] ++ (Lib.itoa c.p.id) ++ [32] ++ (Lib.itoa c.p.work)).toArray⟩) ⟨(by kernel_rfl), trivial⟩ (k := ?_)
          have okA_ := cok_t h11
          exact ⟨by rw [lineW_yes okA_ (fun k => absurd k (by omega)), cmdW, if_neg (by omega), if_neg (by omega), if_pos (by omega)]; first | done | rfl | (rw [join_two]; simp; done) | (rw [join_three]; simp; done) | (rw [joinL_one]; done), K⟩
        · have ph22 := ne_of_beq_false h22
          refine WC.seq ?_
          refine WC.region ?_
          refine WL.op (d := 41) (.bool (c.p.kind == 4)) (k := ?_)
          refine WL.op (d := 40) (.bool (c.p.kind == 4)) (k := ?_)
          refine WL.nil ?_
          refine WX.seqN ?_
          refine WC.cond (b := c.p.kind == 4) (ht := fun h26 => ?_) (hf := fun h26 => ?_)
          · have ph26 := eq_of_beq h26
            refine WC.seq ?_
            refine WC.region ?_
            refine WL.op (d := 42) (.pointer (some ⟨b1, 13, none⟩)) (k := ?_)
            refine WL.load (v := .int .i64 c.p.n) (ld1 (T := 3) (i := 13) hb4) (k := ?_)
            refine WL.callG (d := 44) (f := 39) (args := #[.int .i64 c.p.n]) (u25digits_c (n := c.p.n) (by omega) (by omega) w13) (k := fun e_ w28 h_ => ⟨.string ⟨(Lib.itoa c.p.n).toArray⟩, h_.1, ?_⟩)
            have k29 := h_.2; clear h_
            replace hb4 := k29.heap hb4 id
            replace K := K.trans (k29.any _)
            have il27 := itoa_le (n := c.p.n) (by omega) (by omega)
            refine WL.bin (d := 45) (v := .string ⟨([116, 105, 99, 107, 32] ++ (Lib.itoa c.p.n)).toArray⟩) (cat_run (by (try simp only [List.length_append, List.length_cons, List.length_nil]); omega)) (k := ?_)
            refine WL.op (d := 2) (.string ⟨([116, 105, 99, 107, 32] ++ (Lib.itoa c.p.n)).toArray⟩) (k := ?_)
            refine WL.nil ?_
            refine WX.seqN ?_
            refine WC.ret ?_
            refine WX.blockR ?_
            refine WX.seqR ?_
            refine WX.ret (rs := [.tmp 2]) [.string ⟨([116, 105, 99, 107, 32] ++ (Lib.itoa c.p.n)).toArray⟩] (.string ⟨([116, 105, 99, 107, 32] ++ (Lib.itoa c.p.n)).toArray⟩) ⟨(by kernel_rfl), trivial⟩ (k := ?_)
            have okA_ := cok_t h11
            exact ⟨by rw [lineW_yes okA_ (fun k => absurd k (by omega)), cmdW, if_neg (by omega), if_neg (by omega), if_neg (by omega), if_pos (by omega)]; first | done | rfl | (rw [join_two]; simp; done) | (rw [join_three]; simp; done) | (rw [joinL_one]; done), K⟩
          · have ph26 := ne_of_beq_false h26
            refine WC.seq ?_
            refine WC.region ?_
            refine WL.op (d := 47) (.bool (c.p.kind == 5)) (k := ?_)
            refine WL.op (d := 46) (.bool (c.p.kind == 5)) (k := ?_)
            refine WL.nil ?_
            refine WX.seqN ?_
            refine WC.cond (b := c.p.kind == 5) (ht := fun h30 => ?_) (hf := fun h30 => ?_)
            · have ph30 := eq_of_beq h30
              refine WC.seq ?_
              refine WC.region ?_
              refine WL.op (d := 48) (.string ⟨(Lib.itoa c.p.id).toArray⟩) (k := ?_)
              refine WL.bin (d := 49) (v := .string ⟨([113, 117, 101, 114, 121, 32] ++ (Lib.itoa c.p.id)).toArray⟩) (cat_run (by (try simp only [List.length_append, List.length_cons, List.length_nil]); omega)) (k := ?_)
              refine WL.op (d := 2) (.string ⟨([113, 117, 101, 114, 121, 32] ++ (Lib.itoa c.p.id)).toArray⟩) (k := ?_)
              refine WL.nil ?_
              refine WX.seqN ?_
              refine WC.ret ?_
              refine WX.blockR ?_
              refine WX.seqR ?_
              refine WX.ret (rs := [.tmp 2]) [.string ⟨([113, 117, 101, 114, 121, 32] ++ (Lib.itoa c.p.id)).toArray⟩] (.string ⟨([113, 117, 101, 114, 121, 32] ++ (Lib.itoa c.p.id)).toArray⟩) ⟨(by kernel_rfl), trivial⟩ (k := ?_)
              have okA_ := cok_t h11
              exact ⟨by rw [lineW_yes okA_ (fun k => absurd k (by omega)), cmdW, if_neg (by omega), if_neg (by omega), if_neg (by omega), if_neg (by omega), if_pos (by omega)]; first | done | rfl | (rw [join_two]; simp; done) | (rw [join_three]; simp; done) | (rw [joinL_one]; done), K⟩
            · have ph30 := ne_of_beq_false h30
              refine WC.seq ?_
              refine WC.region ?_
              refine WL.op (d := 51) (.bool (c.p.kind == 6)) (k := ?_)
              refine WL.op (d := 50) (.bool (c.p.kind == 6)) (k := ?_)
              refine WL.nil ?_
              refine WX.seqN ?_
              refine WC.cond (b := c.p.kind == 6) (ht := fun h31 => ?_) (hf := fun h31 => ?_)
              · have ph31 := eq_of_beq h31
                refine WC.seq ?_
                refine WC.region ?_
                refine WL.op (d := 2) (.string ⟨#[115, 110, 97, 112, 115, 104, 111, 116]⟩) (k := ?_)
                refine WL.nil ?_
                refine WX.seqN ?_
                refine WC.ret ?_
                refine WX.blockR ?_
                refine WX.seqR ?_
                refine WX.ret (rs := [.tmp 2]) [.string ⟨#[115, 110, 97, 112, 115, 104, 111, 116]⟩] (.string ⟨#[115, 110, 97, 112, 115, 104, 111, 116]⟩) ⟨(by kernel_rfl), trivial⟩ (k := ?_)
                have okA_ := cok_t h11
                exact ⟨by rw [lineW_yes okA_ (fun k => absurd k (by omega)), cmdW, if_neg (by omega), if_neg (by omega), if_neg (by omega), if_neg (by omega), if_neg (by omega), if_pos (by omega)]; first | done | rfl | (rw [join_two]; simp; done) | (rw [join_three]; simp; done) | (rw [joinL_one]; done), K⟩
              · have ph31 := ne_of_beq_false h31
                refine WC.seq ?_
                refine WC.region ?_
                refine WL.op (d := 53) (.bool (c.p.kind == 7)) (k := ?_)
                refine WL.op (d := 52) (.bool (c.p.kind == 7)) (k := ?_)
                refine WL.nil ?_
                refine WX.seqN ?_
                refine WC.cond (b := c.p.kind == 7) (ht := fun h32 => ?_) (hf := fun h32 => ?_)
                · have ph32 := eq_of_beq h32
                  refine WC.seq ?_
                  refine WC.region ?_
                  refine WL.op (d := 54) (.pointer (some ⟨b1, 13, none⟩)) (k := ?_)
                  refine WL.load (v := .int .i64 c.p.n) (ld1 (T := 3) (i := 13) hb4) (k := ?_)
                  refine WL.callG (d := 56) (f := 39) (args := #[.int .i64 c.p.n]) (u25digits_c (n := c.p.n) (by omega) (by omega) w13) (k := fun e_ w34 h_ => ⟨.string ⟨(Lib.itoa c.p.n).toArray⟩, h_.1, ?_⟩)
                  have k35 := h_.2; clear h_
                  replace hb4 := k35.heap hb4 id
                  replace K := K.trans (k35.any _)
                  have il33 := itoa_le (n := c.p.n) (by omega) (by omega)
                  refine WL.bin (d := 57) (v := .string ⟨([102, 97, 105, 108, 32] ++ (Lib.itoa c.p.n)).toArray⟩) (cat_run (by (try simp only [List.length_append, List.length_cons, List.length_nil]); omega)) (k := ?_)
                  refine WL.op (d := 2) (.string ⟨([102, 97, 105, 108, 32] ++ (Lib.itoa c.p.n)).toArray⟩) (k := ?_)
                  refine WL.nil ?_
                  refine WX.seqN ?_
                  refine WC.ret ?_
                  refine WX.blockR ?_
                  refine WX.seqR ?_
                  refine WX.ret (rs := [.tmp 2]) [.string ⟨([102, 97, 105, 108, 32] ++ (Lib.itoa c.p.n)).toArray⟩] (.string ⟨([102, 97, 105, 108, 32] ++ (Lib.itoa c.p.n)).toArray⟩) ⟨(by kernel_rfl), trivial⟩ (k := ?_)
                  have okA_ := cok_t h11
                  exact ⟨by rw [lineW_yes okA_ (fun k => absurd k (by omega)), cmdW, if_neg (by omega), if_neg (by omega), if_neg (by omega), if_neg (by omega), if_neg (by omega), if_neg (by omega), if_pos (by omega)]; first | done | rfl | (rw [join_two]; simp; done) | (rw [join_three]; simp; done) | (rw [joinL_one]; done), K⟩
                · have ph32 := ne_of_beq_false h32
                  refine WC.seq ?_
                  refine WC.region ?_
                  refine WL.op (d := 59) (.bool (c.p.kind == 9)) (k := ?_)
                  refine WL.op (d := 58) (.bool (c.p.kind == 9)) (k := ?_)
                  refine WL.nil ?_
                  refine WX.seqN ?_
                  refine WC.cond (b := c.p.kind == 9) (ht := fun h36 => ?_) (hf := fun h36 => ?_)
                  · have ph36 := eq_of_beq h36
                    refine WC.seq ?_
                    refine WC.region ?_
                    refine WL.op (d := 2) (.string ⟨#[115, 116, 97, 114, 116]⟩) (k := ?_)
                    refine WL.nil ?_
                    refine WX.seqN ?_
                    refine WC.ret ?_
                    refine WX.blockR ?_
                    refine WX.seqR ?_
                    refine WX.ret (rs := [.tmp 2]) [.string ⟨#[115, 116, 97, 114, 116]⟩] (.string ⟨#[115, 116, 97, 114, 116]⟩) ⟨(by kernel_rfl), trivial⟩ (k := ?_)
                    have okA_ := cok_t h11
                    exact ⟨by rw [lineW_yes okA_ (fun k => absurd k (by omega)), cmdW, if_neg (by omega), if_neg (by omega), if_neg (by omega), if_neg (by omega), if_neg (by omega), if_neg (by omega), if_neg (by omega), if_neg (by omega), if_pos (by omega)]; first | done | rfl | (rw [join_two]; simp; done) | (rw [join_three]; simp; done) | (rw [joinL_one]; done), K⟩
                  · have ph36 := ne_of_beq_false h36
                    refine WC.skip ?_
                    refine WX.blockN ?_
                    refine WX.seqN ?_
                    refine WC.seq ?_
                    refine WC.region ?_
                    refine WL.op (d := 5) (.string ⟨#[99, 114, 97, 115, 104]⟩) (k := ?_)
                    refine WL.nil ?_
                    refine WX.seqN ?_
                    refine WC.seq ?_
                    refine WC.seq ?_
                    refine WC.region ?_
                    refine WL.op (d := 6) (.int .i64 0) (k := ?_)
                    refine WL.nil ?_
                    refine WX.seqN ?_
                    refine WC.block ?_
                    refine WC.rw (t := 5) (v := .string ⟨(fjU c.p.fs 0).toArray⟩) (congrArg (fun l : List UInt8 => Value.string ⟨l.toArray⟩) (fjU_zero c.p.fs).symm) (k := ?_)
                    refine WC.loop (ι := Int) (fun (i : Int) => [(0, GCmd.val c), (1, .pointer (some ⟨b1, 0, none⟩)), (8, GCmd.val c), (9, .bool (cokB c.p)), (3, .bool (cokB c.p)), (10, .bool (cokB c.p)), (11, .bool (!(cokB c.p))), (12, .pointer (some ⟨b1, 11, none⟩)), (13, .int .i64 c.p.id), (14, .string ⟨(Lib.itoa c.p.id).toArray⟩), (4, .string ⟨(Lib.itoa c.p.id).toArray⟩), (15, .pointer (some ⟨b1, 0, none⟩)), (16, .int .i64 c.p.kind), (18, .bool (c.p.kind == 1)), (17, .bool (c.p.kind == 1)), (23, .bool (c.p.kind == 2)), (22, .bool (c.p.kind == 2)), (32, .bool (c.p.kind == 3)), (31, .bool (c.p.kind == 3)), (41, .bool (c.p.kind == 4)), (40, .bool (c.p.kind == 4)), (47, .bool (c.p.kind == 5)), (46, .bool (c.p.kind == 5)), (51, .bool (c.p.kind == 6)), (50, .bool (c.p.kind == 6)), (53, .bool (c.p.kind == 7)), (52, .bool (c.p.kind == 7)), (59, .bool (c.p.kind == 9)), (58, .bool (c.p.kind == 9)), (6, .int .i64 i), (5, .string ⟨(fjU c.p.fs i).toArray⟩)]) (fun (i : Int) (w_ : World) => (Keeps (fun _ => False) w w_) ∧ (w_.heap[b1]? = some (.cells (Value.cells (GCmd.val c)) 39 (0, 0))) ∧ (0 ≤ i) ∧ (i ≤ c.p.fs.length) ∧ (okU c.p.fs i)) (fun (i : Int) => (c.p.fs.length - i).toNat) 0 ⟨(by kernel_rfl), (by kernel_rfl), (by kernel_rfl), (by kernel_rfl), (by kernel_rfl), (by kernel_rfl), (by kernel_rfl), (by kernel_rfl), (by kernel_rfl), (by kernel_rfl), (by kernel_rfl), (by kernel_rfl), (by kernel_rfl), (by kernel_rfl), (by kernel_rfl), (by kernel_rfl), (by kernel_rfl), (by kernel_rfl), (by kernel_rfl), (by kernel_rfl), (by kernel_rfl), (by kernel_rfl), (by kernel_rfl), (by kernel_rfl), (by kernel_rfl), (by kernel_rfl), (by kernel_rfl), (by kernel_rfl), (by kernel_rfl), (by kernel_rfl), (by kernel_rfl), trivial⟩ ⟨K, hb4, Int.le_refl 0, (by omega), okU_zero _⟩ ?_
                    rintro i w37 ⟨K, hb38, i0, i1, iu⟩
                    have fl_ := fjU_len okf_ (by omega) i
                    refine WC.seq ?_
                    refine WC.seq ?_
                    refine WC.region ?_
                    refine WL.op (d := 60) (.int .i64 i) (k := ?_)
                    refine WL.op (d := 61) (.pointer (some ⟨b1, 14, none⟩)) (k := ?_)
                    refine WL.load (v := .slice c.A c.p.fs.length c.cap) (ld1 (T := 37) (i := 14) hb38) (k := ?_)
                    refine WL.op (d := 63) (.int .i64 (c.p.fs.length : Int)) (k := ?_)
                    refine WL.op (d := 64) (.bool (decide (i < (c.p.fs.length : Int)))) (k := ?_)
                    refine WL.nil ?_
                    refine WX.seqN ?_
                    refine WC.cond (b := decide (i < (c.p.fs.length : Int))) (ht := fun h39 => ?_) (hf := fun h39 => ?_)
                    · have ph39 := of_decide_eq_true h39
                      refine WC.skip ?_
                      refine WX.seqN ?_
                      refine WC.seq ?_
                      refine WC.block ?_
                      refine WC.seq ?_
                      refine WC.region ?_
                      refine WL.op (d := 67) (.pointer (some ⟨b1, 14, none⟩)) (k := ?_)
                      refine WL.load (v := .slice c.A c.p.fs.length c.cap) (ld1 (T := 37) (i := 14) hb38) (k := ?_)
                      refine WL.op (d := 69) (.int .i64 i) (k := ?_)
                      obtain ⟨b40, o41, r42, hr43, hA44, he45⟩ := SlAt.at hc (i := i) (by omega) (by omega)
                      refine WL.rw (t := 68) (v := .slice (some ⟨b40, o41, none⟩) c.p.fs.length c.cap) (congrArg (fun a => Value.slice a c.p.fs.length c.cap) hA44) (k := ?_)
                      have fk46 := okf_ _ (List.mem_of_getElem? hr43)
                      unfold GFate.ok at fk46
                      refine WL.idx (T := 37) (E := 72) (m := 2) (b := b40) (o := o41) (len := c.p.fs.length) (cap := c.cap) (i := i) (kk := .i64) (d := 70) (by omega) (by omega) (k := ?_)
                      refine WL.rw (t := 68) (v := .slice c.A c.p.fs.length c.cap) (congrArg (fun a => Value.slice a c.p.fs.length c.cap) (Eq.symm hA44)) (k := ?_)
                      refine WL.load (v := GFate.val r42) ((he45.adds K).ldW (T := 72)) (k := ?_)
                      refine WL.new (d := 7) (T := 72) #[.int .i64 0, .int .i64 0] (k := fun b47 w48 g49 hb50 k51 => ?_)
                      have z52 := Nat.le_trans K.size g49
                      have n53 : b1 ≠ b47 := Nat.ne_of_lt (Nat.lt_of_lt_of_le (lt_of_heap hb38) g49)
                      replace hb38 := k51.heap hb38 id
                      replace K := K.trans (k51.any _)
                      refine WL.store (v := GFate.val r42) (i := 0) (cs' := (Value.cells (GFate.val r42))) hb50 (k := fun w54 hb55 k56 => ?_)
                      replace hb38 := k56.heap hb38 n53
                      replace K := K.trans' k56 (fun i hi e => absurd (e ▸ hi) (Nat.not_lt.2 z52))
                      clear hb50
                      refine WL.nil ?_
                      refine WX.seqN ?_
                      refine WC.seq ?_
                      refine WC.seq ?_
                      refine WC.region ?_
                      refine WL.op (d := 72) (.pointer (some ⟨b47, 0, none⟩)) (k := ?_)
                      refine WL.load (v := .int .i64 r42.kind) (ld1 (T := 3) (i := 0) hb55) (k := ?_)
                      refine WL.op (d := 74) (.bool (r42.kind == 2)) (k := ?_)
                      refine WL.nil ?_
                      refine WX.seqN ?_
                      refine WC.cond (b := r42.kind == 2) (ht := fun h57 => ?_) (hf := fun h57 => ?_)
                      · have ph57 := eq_of_beq h57
                        refine WC.seq ?_
                        refine WC.region ?_
                        refine WL.op (d := 75) (.string ⟨(fjU c.p.fs i).toArray⟩) (k := ?_)
                        refine WL.bin (d := 76) (v := .string ⟨((fjU c.p.fs i) ++ [32, 116, 111, 114, 110, 32]).toArray⟩) (cat_run (by (try simp only [List.length_append, List.length_cons, List.length_nil]); omega)) (k := ?_)
                        refine WL.op (d := 77) (.pointer (some ⟨b47, 1, none⟩)) (k := ?_)
                        refine WL.load (v := .int .i64 r42.at_) (ld1 (T := 3) (i := 1) hb55) (k := ?_)
                        refine WL.callG (d := 79) (f := 39) (args := #[.int .i64 r42.at_]) (u25digits_c (n := r42.at_) (by omega) (by omega) w54) (k := fun e_ w59 h_ => ⟨.string ⟨(Lib.itoa r42.at_).toArray⟩, h_.1, ?_⟩)
                        have k60 := h_.2; clear h_
                        replace hb38 := k60.heap hb38 id
                        replace hb55 := k60.heap hb55 id
                        replace K := K.trans (k60.any _)
                        have il58 := itoa_le (n := r42.at_) (by omega) (by omega)
                        refine WL.bin (d := 80) (v := .string ⟨((fjU c.p.fs i) ++ [32, 116, 111, 114, 110, 32] ++ (Lib.itoa r42.at_)).toArray⟩) (cat_run (by (try simp only [List.length_append, List.length_cons, List.length_nil]); omega)) (k := ?_)
                        refine WL.op (d := 5) (.string ⟨((fjU c.p.fs i) ++ [32, 116, 111, 114, 110, 32] ++ (Lib.itoa r42.at_)).toArray⟩) (k := ?_)
                        refine WL.nil ?_
                        refine WX.seqN ?_
                        refine WC.exit ?_
                        refine WX.seqE ?_
                        refine WX.blockE ?_
                        refine WX.seqN ?_
                        refine WC.region ?_
                        refine WL.op (d := 65) (.int .i64 i) (k := ?_)
                        refine WL.opE (d := 66) (.int .i64 (IntKind.i64.wrap (i + 1))) (v := .int .i64 (i + 1)) (congrArg (Value.int .i64) (IntWalk.i64_in _ (by omega))) (k := ?_)
                        refine WL.op (d := 6) (.int .i64 (i + 1)) (k := ?_)
                        refine WL.nil ?_
                        refine WX.rw (t := 5) (v := .string ⟨(fjU c.p.fs (i + 1)).toArray⟩) (congrArg (fun l : List UInt8 => Value.string ⟨l.toArray⟩) (fjU_s2 i0 hr43 ph57)) (k := ?_)
                        refine WX.round (i + 1) (by show (c.p.fs.length - (i + 1)).toNat < (c.p.fs.length - i).toNat; omega) ⟨(by kernel_rfl), (by kernel_rfl), (by kernel_rfl), (by kernel_rfl), (by kernel_rfl), (by kernel_rfl), (by kernel_rfl), (by kernel_rfl), (by kernel_rfl), (by kernel_rfl), (by kernel_rfl), (by kernel_rfl), (by kernel_rfl), (by kernel_rfl), (by kernel_rfl), (by kernel_rfl), (by kernel_rfl), (by kernel_rfl), (by kernel_rfl), (by kernel_rfl), (by kernel_rfl), (by kernel_rfl), (by kernel_rfl), (by kernel_rfl), (by kernel_rfl), (by kernel_rfl), (by kernel_rfl), (by kernel_rfl), (by kernel_rfl), (by kernel_rfl), (by kernel_rfl), trivial⟩ ⟨K, hb38, (by omega), (by omega), (okU_succ i0 hr43 iu (.inl ph57))⟩
                      · have ph57 := ne_of_beq_false h57
                        refine WC.skip ?_
                        refine WX.seqN ?_
                        refine WC.seq ?_
                        refine WC.seq ?_
                        refine WC.region ?_
                        refine WL.op (d := 81) (.pointer (some ⟨b47, 1, none⟩)) (k := ?_)
                        refine WL.load (v := .int .i64 r42.at_) (ld1 (T := 3) (i := 1) hb55) (k := ?_)
                        refine WL.op (d := 83) (.bool (r42.at_ != 0)) (k := ?_)
                        refine WL.nil ?_
                        refine WX.seqN ?_
                        refine WC.cond (b := r42.at_ != 0) (ht := fun h61 => ?_) (hf := fun h61 => ?_)
                        · have ph61 := bne_iff_ne.1 h61
                          refine WC.seq ?_
                          refine WC.region ?_
                          refine WL.op (d := 2) (.string ⟨#[]⟩) (k := ?_)
                          refine WL.nil ?_
                          refine WX.seqN ?_
                          refine WC.ret ?_
                          refine WX.seqR ?_
                          refine WX.blockR ?_
                          refine WX.seqR ?_
                          refine WX.seqR ?_
                          refine WX.blockR ?_
                          refine WX.seqR ?_
                          refine WX.ret (rs := [.tmp 2]) [.string ⟨#[]⟩] (.string ⟨#[]⟩) ⟨(by kernel_rfl), trivial⟩ (k := ?_)
                          have o_ := okU_bad hr43 (fun k => k.elim ph57 (fun k => by omega))
                          exact ⟨by rw [lineW_not (show c.p.kind = 8 by omega) o_], K⟩
                        · have ph61 := of_bne_false h61
                          refine WC.skip ?_
                          refine WX.seqN ?_
                          refine WC.seq ?_
                          refine WC.region ?_
                          refine WL.op (d := 84) (.pointer (some ⟨b47, 0, none⟩)) (k := ?_)
                          refine WL.load (v := .int .i64 r42.kind) (ld1 (T := 3) (i := 0) hb55) (k := ?_)
                          refine WL.op (d := 86) (.bool (r42.kind == 1)) (k := ?_)
                          refine WL.nil ?_
                          refine WX.seqN ?_
                          refine WC.cond (b := r42.kind == 1) (ht := fun h62 => ?_) (hf := fun h62 => ?_)
                          · have ph62 := eq_of_beq h62
                            refine WC.region ?_
                            refine WL.op (d := 87) (.string ⟨(fjU c.p.fs i).toArray⟩) (k := ?_)
                            refine WL.bin (d := 88) (v := .string ⟨((fjU c.p.fs i) ++ [32, 107, 101, 112, 116]).toArray⟩) (cat_run (by (try simp only [List.length_append, List.length_cons, List.length_nil]); omega)) (k := ?_)
                            refine WL.op (d := 5) (.string ⟨((fjU c.p.fs i) ++ [32, 107, 101, 112, 116]).toArray⟩) (k := ?_)
                            refine WL.nil ?_
                            refine WX.blockN ?_
                            refine WX.seqN ?_
                            refine WC.region ?_
                            refine WL.op (d := 65) (.int .i64 i) (k := ?_)
                            refine WL.opE (d := 66) (.int .i64 (IntKind.i64.wrap (i + 1))) (v := .int .i64 (i + 1)) (congrArg (Value.int .i64) (IntWalk.i64_in _ (by omega))) (k := ?_)
                            refine WL.op (d := 6) (.int .i64 (i + 1)) (k := ?_)
                            refine WL.nil ?_
                            refine WX.rw (t := 5) (v := .string ⟨(fjU c.p.fs (i + 1)).toArray⟩) (congrArg (fun l : List UInt8 => Value.string ⟨l.toArray⟩) (fjU_s1 i0 hr43 ph57 ph62)) (k := ?_)
                            refine WX.round (i + 1) (by show (c.p.fs.length - (i + 1)).toNat < (c.p.fs.length - i).toNat; omega) ⟨(by kernel_rfl), (by kernel_rfl), (by kernel_rfl), (by kernel_rfl), (by kernel_rfl), (by kernel_rfl), (by kernel_rfl), (by kernel_rfl), (by kernel_rfl), (by kernel_rfl), (by kernel_rfl), (by kernel_rfl), (by kernel_rfl), (by kernel_rfl), (by kernel_rfl), (by kernel_rfl), (by kernel_rfl), (by kernel_rfl), (by kernel_rfl), (by kernel_rfl), (by kernel_rfl), (by kernel_rfl), (by kernel_rfl), (by kernel_rfl), (by kernel_rfl), (by kernel_rfl), (by kernel_rfl), (by kernel_rfl), (by kernel_rfl), (by kernel_rfl), (by kernel_rfl), trivial⟩ ⟨K, hb38, (by omega), (by omega), (okU_succ i0 hr43 iu (by right; omega))⟩
                          · have ph62 := ne_of_beq_false h62
                            refine WC.region ?_
                            refine WL.op (d := 89) (.string ⟨(fjU c.p.fs i).toArray⟩) (k := ?_)
                            refine WL.bin (d := 90) (v := .string ⟨((fjU c.p.fs i) ++ [32, 108, 111, 115, 116]).toArray⟩) (cat_run (by (try simp only [List.length_append, List.length_cons, List.length_nil]); omega)) (k := ?_)
                            refine WL.op (d := 5) (.string ⟨((fjU c.p.fs i) ++ [32, 108, 111, 115, 116]).toArray⟩) (k := ?_)
                            refine WL.nil ?_
                            refine WX.blockN ?_
                            refine WX.seqN ?_
                            refine WC.region ?_
                            refine WL.op (d := 65) (.int .i64 i) (k := ?_)
                            refine WL.opE (d := 66) (.int .i64 (IntKind.i64.wrap (i + 1))) (v := .int .i64 (i + 1)) (congrArg (Value.int .i64) (IntWalk.i64_in _ (by omega))) (k := ?_)
                            refine WL.op (d := 6) (.int .i64 (i + 1)) (k := ?_)
                            refine WL.nil ?_
                            refine WX.rw (t := 5) (v := .string ⟨(fjU c.p.fs (i + 1)).toArray⟩) (congrArg (fun l : List UInt8 => Value.string ⟨l.toArray⟩) (fjU_s0 i0 hr43 ph57 ph62)) (k := ?_)
                            refine WX.round (i + 1) (by show (c.p.fs.length - (i + 1)).toNat < (c.p.fs.length - i).toNat; omega) ⟨(by kernel_rfl), (by kernel_rfl), (by kernel_rfl), (by kernel_rfl), (by kernel_rfl), (by kernel_rfl), (by kernel_rfl), (by kernel_rfl), (by kernel_rfl), (by kernel_rfl), (by kernel_rfl), (by kernel_rfl), (by kernel_rfl), (by kernel_rfl), (by kernel_rfl), (by kernel_rfl), (by kernel_rfl), (by kernel_rfl), (by kernel_rfl), (by kernel_rfl), (by kernel_rfl), (by kernel_rfl), (by kernel_rfl), (by kernel_rfl), (by kernel_rfl), (by kernel_rfl), (by kernel_rfl), (by kernel_rfl), (by kernel_rfl), (by kernel_rfl), (by kernel_rfl), trivial⟩ ⟨K, hb38, (by omega), (by omega), (okU_succ i0 hr43 iu (by right; omega))⟩
                    · have ph39 := of_decide_eq_false h39
                      refine WC.exit ?_
                      refine WX.seqE ?_
                      refine WX.seqE ?_
                      refine WX.blockE ?_
                      refine WX.seqN ?_
                      refine WC.seq ?_
                      refine WC.region ?_
                      refine WL.op (d := 91) (.string ⟨(fjU c.p.fs i).toArray⟩) (k := ?_)
                      refine WL.op (d := 2) (.string ⟨(fjU c.p.fs i).toArray⟩) (k := ?_)
                      refine WL.nil ?_
                      refine WX.seqN ?_
                      refine WC.ret ?_
                      refine WX.ret (rs := [.tmp 2]) [.string ⟨(fjU c.p.fs i).toArray⟩] (.string ⟨(fjU c.p.fs i).toArray⟩) ⟨(by kernel_rfl), trivial⟩ (k := ?_)
                      have okA_ := cok_t h11
                      have o_ := okU_end (i := i) (by omega) iu
                      exact ⟨by rw [fjU_end (by omega), lineW_yes okA_ (fun _ => o_), cmdW, if_neg (by omega), if_neg (by omega), if_neg (by omega), if_neg (by omega), if_neg (by omega), if_neg (by omega), if_neg (by omega), if_pos (show c.p.kind = 8 by omega)], K⟩
set_option maxRecDepth 100000 in
set_option maxHeartbeats 4000000 in
theorem u25Text_c {A : Option Addr} {cp : Nat} {xs : List GCmd} {w : World} (hA : SlAt cmdC 15 39 A xs w) (hF : Fts 1000000000 xs w) (hn : xs.length ≤ 1000) : Calls Tryz.prog 16 #[.slice A xs.length cp] w fun e w' => e = .returned (.string ⟨(textW (xs.map GCmd.p)).toArray⟩) ∧ Adds w w' := by
  have K : Keeps (fun _ => False) w w := Keeps.refl _ w
  refine Calls.start Tryz.func16 rfl (by kernel_rfl) ?_
  refine WC.seq ?_
  refine WC.region ?_
  refine WL.op (d := 2) (.string ⟨#[]⟩) (k := ?_)
  refine WL.nil ?_
  refine WX.seqN ?_
  refine WC.seq ?_
  refine WC.region ?_
  refine WL.op (d := 3) (.string ⟨#[]⟩) (k := ?_)
  refine WL.nil ?_
  refine WX.seqN ?_
  refine WC.seq ?_
  refine WC.seq ?_
  refine WC.region ?_
  refine WL.op (d := 4) (.int .i64 0) (k := ?_)
  refine WL.nil ?_
  refine WX.seqN ?_
  refine WC.block ?_
  refine WC.rw (t := 3) (v := .string ⟨(txU xs 0).toArray⟩) (congrArg (fun l : List UInt8 => Value.string ⟨l.toArray⟩) (txU_zero xs).symm) (k := ?_)
  refine WC.loop (ι := Int) (fun (i : Int) => [(0, .slice A xs.length cp), (4, .int .i64 i), (3, .string ⟨(txU xs i).toArray⟩)]) (fun (i : Int) (w_ : World) => (Keeps (fun _ => False) w w_) ∧ (0 ≤ i) ∧ (i ≤ xs.length) ∧ (upL xs i)) (fun (i : Int) => (xs.length - i).toNat) 0 ⟨(by kernel_rfl), (by kernel_rfl), (by kernel_rfl), trivial⟩ ⟨K, Int.le_refl 0, (by omega), (upL_zero xs)⟩ ?_
  rintro i w1 ⟨K, i0, i1, iu⟩
  have lu_ := txU_len (xs := xs) i (by omega)
  refine WC.seq ?_
  refine WC.seq ?_
  refine WC.region ?_
  refine WL.op (d := 6) (.int .i64 i) (k := ?_)
  refine WL.op (d := 7) (.slice A xs.length cp) (k := ?_)
  refine WL.op (d := 8) (.int .i64 (xs.length : Int)) (k := ?_)
  refine WL.op (d := 9) (.bool (decide (i < (xs.length : Int)))) (k := ?_)
  refine WL.nil ?_
  refine WX.seqN ?_
  refine WC.cond (b := decide (i < (xs.length : Int))) (ht := fun h2 => ?_) (hf := fun h2 => ?_)
  · have ph2 := of_decide_eq_true h2
    refine WC.skip ?_
    refine WX.seqN ?_
    refine WC.seq ?_
    refine WC.block ?_
    refine WC.seq ?_
    refine WC.region ?_
    refine WL.op (d := 12) (.slice A xs.length cp) (k := ?_)
    refine WL.op (d := 13) (.int .i64 i) (k := ?_)
    obtain ⟨b3, o4, r5, hr6, hA7, he8⟩ := SlAt.at hA (i := i) (by omega) (by omega)
    refine WL.rw (t := 12) (v := .slice (some ⟨b3, o4, none⟩) xs.length cp) (congrArg (fun a => Value.slice a xs.length cp) hA7) (k := ?_)
    obtain ⟨hs9, hc10, hl11⟩ := fts_mem hF hr6
    refine WL.idx (T := 24) (E := 39) (m := 15) (b := b3) (o := o4) (len := xs.length) (cap := cp) (i := i) (kk := .i64) (d := 14) (by omega) (by omega) (k := ?_)
    refine WL.rw (t := 12) (v := .slice A xs.length cp) (congrArg (fun a => Value.slice a xs.length cp) (Eq.symm hA7)) (k := ?_)
    refine WL.load (v := GCmd.val r5) ((he8.adds K).ldW (T := 39)) (k := ?_)
    refine WL.callG (d := 16) (f := 14) (args := #[GCmd.val r5]) (u25Line_c (c := r5) (hs9.adds K) (by first | omega | simp)) (k := fun e_ w13 h_ => ⟨.string ⟨(lineW r5.p).toArray⟩, h_.1, ?_⟩)
    have k14 := h_.2; clear h_
    replace K := K.trans (k14.any _)
    have ll12 := lineW_le r5.p
    refine WL.op (d := 5) (.string ⟨(lineW r5.p).toArray⟩) (k := ?_)
    refine WL.nil ?_
    refine WX.seqN ?_
    refine WC.seq ?_
    refine WC.seq ?_
    refine WC.region ?_
    refine WL.op (d := 17) (.string ⟨(lineW r5.p).toArray⟩) (k := ?_)
    refine WL.opE (d := 18) (.bool (ByteArray.toList ⟨(lineW r5.p).toArray⟩ == ByteArray.toList ⟨([]).toArray⟩)) (v := .bool (decide (lineW r5.p = []))) (str_eql _ _) (k := ?_)
    refine WL.nil ?_
    refine WX.seqN ?_
    refine WC.cond (b := decide (lineW r5.p = [])) (ht := fun h15 => ?_) (hf := fun h15 => ?_)
    · have ph15 := of_decide_eq_true h15
      refine WC.seq ?_
      refine WC.region ?_
      refine WL.op (d := 2) (.string ⟨#[]⟩) (k := ?_)
      refine WL.nil ?_
      refine WX.seqN ?_
      refine WC.ret ?_
      refine WX.seqR ?_
      refine WX.blockR ?_
      refine WX.seqR ?_
      refine WX.seqR ?_
      refine WX.blockR ?_
      refine WX.seqR ?_
      refine WX.ret (rs := [.tmp 2]) [.string ⟨#[]⟩] (.string ⟨#[]⟩) ⟨(by kernel_rfl), trivial⟩ (k := ?_)
      exact ⟨by rw [textW_no hr6 ph15], K⟩
    · have ph15 := of_decide_eq_false h15
      refine WC.skip ?_
      refine WX.seqN ?_
      refine WC.region ?_
      refine WL.op (d := 19) (.string ⟨(txU xs i).toArray⟩) (k := ?_)
      refine WL.op (d := 20) (.string ⟨(lineW r5.p).toArray⟩) (k := ?_)
      refine WL.bin (d := 21) (v := .string ⟨((txU xs i) ++ (lineW r5.p)).toArray⟩) (cat_run (by (try simp only [List.length_append, List.length_cons, List.length_nil]); omega)) (k := ?_)
      refine WL.bin (d := 22) (v := .string ⟨((txU xs i) ++ (lineW r5.p) ++ [10]).toArray⟩) (cat_run (by (try simp only [List.length_append, List.length_cons, List.length_nil]); omega)) (k := ?_)
      refine WL.op (d := 3) (.string ⟨((txU xs i) ++ (lineW r5.p) ++ [10]).toArray⟩) (k := ?_)
      refine WL.nil ?_
      refine WX.blockN ?_
      refine WX.seqN ?_
      refine WC.region ?_
      refine WL.op (d := 10) (.int .i64 i) (k := ?_)
      refine WL.opE (d := 11) (.int .i64 (IntKind.i64.wrap (i + 1))) (v := .int .i64 (i + 1)) (congrArg (Value.int .i64) (IntWalk.i64_in _ (by omega))) (k := ?_)
      refine WL.op (d := 4) (.int .i64 (i + 1)) (k := ?_)
      refine WL.nil ?_
      refine WX.rw (t := 3) (v := .string ⟨(txU xs (i + 1)).toArray⟩) (congrArg (fun l : List UInt8 => Value.string ⟨l.toArray⟩) ((List.append_assoc _ _ _).trans (txU_succ i0 hr6))) (k := ?_)
      refine WX.round (i + 1) (by show (xs.length - (i + 1)).toNat < (xs.length - i).toNat; omega) ⟨(by kernel_rfl), (by kernel_rfl), (by kernel_rfl), trivial⟩ ⟨K, (by omega), (by omega), (upL_succ i0 iu hr6 ph15)⟩
  · have ph2 := of_decide_eq_false h2
    refine WC.exit ?_
    refine WX.seqE ?_
    refine WX.seqE ?_
    refine WX.blockE ?_
    refine WX.seqN ?_
    refine WC.seq ?_
    refine WC.region ?_
    refine WL.op (d := 23) (.string ⟨(txU xs i).toArray⟩) (k := ?_)
    refine WL.op (d := 2) (.string ⟨(txU xs i).toArray⟩) (k := ?_)
    refine WL.nil ?_
    refine WX.seqN ?_
    refine WC.ret ?_
    refine WX.ret (rs := [.tmp 2]) [.string ⟨(txU xs i).toArray⟩] (.string ⟨(txU xs i).toArray⟩) ⟨(by kernel_rfl), trivial⟩ (k := ?_)
    exact ⟨by rw [txU_end (i := i) (by omega) iu], K⟩
end Go.Proofs.YtoeinhlmkpgjhaaGreatDoor
namespace Go.Proofs.YtoeinhlmkpgjhaaGreatDoor
open Go.RowKit
set_option linter.unusedVariables false
set_option linter.unusedSimpArgs false
set_option maxRecDepth 100000 in
set_option maxHeartbeats 4000000 in
theorem linesWrite_any {L : Option Addr} {lc : Nat} {l : List GCmd} {w : World} (hL : SlAt cmdC 15 39 L l w) (hF : Fts 9223372036854775807 l w) (hl : l.length ≤ 9223372036854775807) (hG : GB w) (t : GTask) : Calls Tryz.prog 4 #[.slice L l.length lc, t.val] w fun e w' => e = .returned (.bool true) ∧ Adds w w' := by
  have K : Keeps (fun _ => False) w w := Keeps.refl _ w
  have hFf := fts_few hF
  refine Calls.start Tryz.func4 rfl (by kernel_rfl) ?_
  refine WC.seq ?_
  refine WC.region ?_
  refine WL.new (d := 3) (T := 29) (Value.cells (GTask.val t)) (k := fun b1 w2 g3 hb4 k5 => ?_)
  have z6 := Nat.le_trans K.size g3
  replace K := K.trans (k5.any _)
  refine WL.op (d := 4) (.bool false) (k := ?_)
  refine WL.nil ?_
  refine WX.seqN ?_
  refine WC.seq ?_
  refine WC.region ?_
  refine WL.callG (d := 8) (f := 5) (args := #[]) (l25awake_c (hG.keeps K (fun _ _ x => x))) (k := fun e_ w7 h_ => ⟨.bool true, h_.1, ?_⟩)
  have k8 := h_.2; clear h_
  replace hb4 := k8.heap hb4 id
  replace K := K.trans (k8.any _)
  refine WL.op (d := 5) (.bool true) (k := ?_)
  refine WL.nil ?_
  refine WX.seqN ?_
  refine WC.seq ?_
  refine WC.region ?_
  refine WL.op (d := 9) (.slice L l.length lc) (k := ?_)
  refine WL.callG (d := 10) (f := 12) (args := #[.slice L l.length lc]) (l25few_c (lc := lc) (hL.adds K) (hF.adds K) hl) (k := fun e_ w9 h_ => ?_)
  obtain ⟨A10, c11, rfl, ho12, k13, ol14⟩ := h_
  refine ⟨_, rfl, ?_⟩
  have ol15 := fun i h => Nat.le_trans K.size (ol14 i h)
  replace hb4 := k13.heap hb4 id
  replace K := K.trans (k13.any _)
  clear ol14
  have fl16 := fewL_len l
  refine WL.op (d := 6) (.slice A10 ((fewL l).length) c11) (k := ?_)
  refine WL.nil ?_
  refine WX.seqN ?_
  refine WC.seq ?_
  refine WC.seq ?_
  have K0 := K
  replace hL := hL.adds K
  have hs17 := ho12.sl ekCmd
  replace hF := hF.adds K
  replace hFf := hFf.adds K
  replace hG := hG.adds K
  replace K := Keeps.refl (fun _ => False) w9
  refine WC.region ?_
  refine WL.op (d := 7) (.int .i64 0) (k := ?_)
  refine WL.nil ?_
  refine WX.seqN ?_
  refine WC.block ?_
  refine WC.loop (ι := Int) (fun (i : Int) => [(0, .slice L l.length lc), (1, GTask.val t), (3, .pointer (some ⟨b1, 0, none⟩)), (8, .bool true), (5, .bool true), (9, .slice L l.length lc), (10, .slice A10 ((fewL l).length) c11), (6, .slice A10 ((fewL l).length) c11), (7, .int .i64 i)]) (fun (i : Int) (w_ : World) => (Keeps (fun _ => False) w9 w_) ∧ (0 ≤ i) ∧ (i ≤ (fewL l).length)) (fun (i : Int) => ((fewL l).length - i).toNat) 0 ⟨(by kernel_rfl), (by kernel_rfl), (by kernel_rfl), (by kernel_rfl), (by kernel_rfl), (by kernel_rfl), (by kernel_rfl), (by kernel_rfl), (by kernel_rfl), trivial⟩ ⟨K, Int.le_refl 0, (by omega)⟩ ?_
  rintro i w18 ⟨K, i0, i1⟩
  refine WC.seq ?_
  refine WC.seq ?_
  refine WC.region ?_
  refine WL.op (d := 11) (.int .i64 i) (k := ?_)
  refine WL.op (d := 12) (.slice A10 ((fewL l).length) c11) (k := ?_)
  refine WL.op (d := 13) (.int .i64 ((fewL l).length : Int)) (k := ?_)
  refine WL.op (d := 14) (.bool (decide (i < ((fewL l).length : Int)))) (k := ?_)
  refine WL.nil ?_
  refine WX.seqN ?_
  refine WC.cond (b := decide (i < ((fewL l).length : Int))) (ht := fun h19 => ?_) (hf := fun h19 => ?_)
  · have ph19 := of_decide_eq_true h19
    refine WC.skip ?_
    refine WX.seqN ?_
    refine WC.seq ?_
    refine WC.block ?_
    refine WC.seq ?_
    refine WC.mixed (fun _ => False) 11 (k := fun w20 k21 => ?_)
    replace K := K.trans (k21.any _)
    have KC := Keeps.refl (fun _ => False) w20
    have Kb := K
    refine WA.quiet2 0 (d := 17) (.slice A10 ((fewL l).length) c11) KC (hi := rfl) (k := ?_)
    refine WA.quiet2 1 (d := 18) (.int .i64 i) KC (hi := rfl) (k := ?_)
    obtain ⟨b22, o23, r24, hr25, hA26, he27⟩ := SlAt.at hs17 (i := i) (by omega) (by omega)
    refine WA.rw (t := 17) (v := .slice (some ⟨b22, o23, none⟩) ((fewL l).length) c11) (congrArg (fun a => Value.slice a ((fewL l).length) c11) hA26) (k := ?_)
    obtain ⟨hs28, hc29, hl30⟩ := fts_mem hFf hr25
    refine WA.quietR2 2 (d := 19) (.pointer (some ⟨b22, o23 + (i).toNat * 15, none⟩)) KC (exec_idx (T := 24) (E := 39) (m := 15) (b := b22) (o := o23) (len := (fewL l).length) (cap := c11) (i := i) (kk := .i64) (by omega) (by omega)) (hi := rfl) (k := ?_)
    refine WA.rw (t := 17) (v := .slice A10 ((fewL l).length) c11) (congrArg (fun a => Value.slice a ((fewL l).length) c11) (Eq.symm hA26)) (k := ?_)
    refine WA.quietR2 3 (d := 20) (GCmd.val r24) KC (exec_load (fun w_ k_ => ((he27.adds Kb).adds k_).ldW (T := 39))) (hi := rfl) (k := ?_)
    refine WA.quiet2 5 (d := 22) (.slice A10 ((fewL l).length) c11) KC (hi := rfl) (k := ?_)
    refine WA.quiet2 6 (d := 23) (.int .i64 i) KC (hi := rfl) (k := ?_)
    obtain ⟨b31, o32, r33, hr34, hA35, he36⟩ := SlAt.at hs17 (i := i) (by omega) (by omega)
    refine WA.rw (t := 22) (v := .slice (some ⟨b31, o32, none⟩) ((fewL l).length) c11) (congrArg (fun a => Value.slice a ((fewL l).length) c11) hA35) (k := ?_)
    obtain rfl : r24 = r33 := Option.some.inj (hr25.symm.trans hr34)
    obtain ⟨hs37, hc38, hl39⟩ := fts_mem hFf hr25
    refine WA.quietR2 7 (d := 24) (.pointer (some ⟨b31, o32 + (i).toNat * 15, none⟩)) KC (exec_idx (T := 24) (E := 39) (m := 15) (b := b31) (o := o32) (len := (fewL l).length) (cap := c11) (i := i) (kk := .i64) (by omega) (by omega)) (hi := rfl) (k := ?_)
    refine WA.rw (t := 22) (v := .slice A10 ((fewL l).length) c11) (congrArg (fun a => Value.slice a ((fewL l).length) c11) (Eq.symm hA35)) (k := ?_)
    refine WA.quietR2 8 (d := 25) (GCmd.val r24) KC (exec_load (fun w_ k_ => ((he36.adds Kb).adds k_).ldW (T := 39))) (hi := rfl) (k := ?_)
    refine WA.step 4 (hi := rfl) (k := ?_)
    refine WL.callG (d := 21) (f := 13) (args := #[GCmd.val r24]) (lnLine_c (c := r24) (hG.keeps K (fun _ _ x => x)) (hs37.adds K) (by first | omega | simp)) (k := fun e_ w41 h_ => ⟨.string ⟨(lineW r24.p).toArray⟩, h_.1, ?_⟩)
    have k42 := h_.2; clear h_
    replace K := K.trans (k42.any _)
    replace KC := KC.trans (k42.any _)
    have ll40 := lineW_le r24.p
    refine WL.nil ?_
    refine WX.nxt KC ?_
    refine WA.step 9 (hi := rfl) (k := ?_)
    refine WL.callG (d := 26) (f := 14) (args := #[GCmd.val r24]) (u25Line_c (c := r24) (hs37.adds K) (by first | omega | simp)) (k := fun e_ w44 h_ => ⟨.string ⟨(lineW r24.p).toArray⟩, h_.1, ?_⟩)
    have k45 := h_.2; clear h_
    replace K := K.trans (k45.any _)
    replace KC := KC.trans (k45.any _)
    have ll43 := lineW_le r24.p
    refine WL.nil ?_
    refine WX.nxt KC ?_
    refine WA.quiet2 10 (d := 27) (.bool !(ByteArray.toList ⟨(lineW r24.p).toArray⟩ == ByteArray.toList ⟨(lineW r24.p).toArray⟩)) KC (hi := rfl) (k := ?_)
    refine WA.rw (t := 27) (v := .bool (!(decide (lineW r24.p = lineW r24.p)))) (str_neq _ _) (k := ?_)
    refine WA.done (k := ?_)
    clear KC
    refine WX.seqN ?_
    refine WC.cond (b := !(decide (lineW r24.p = lineW r24.p))) (ht := fun h46 => ?_) (hf := fun h46 => ?_)
    · have h47 : (decide (lineW r24.p = lineW r24.p)) = false := Bool.not_inj (y := false) h46
      have ph47 := of_decide_eq_false h47
      refine WC.seq ?_
      refine WC.region ?_
      refine WL.op (d := 4) (.bool false) (k := ?_)
      refine WL.nil ?_
      refine WX.seqN ?_
      refine WC.ret ?_
      refine WX.blockR ?_
      refine WX.seqR ?_
      refine WX.seqR ?_
      refine WX.blockR ?_
      refine WX.seqR ?_
      refine WX.ret (rs := [.tmp 4]) [.bool false] (.bool false) ⟨(by kernel_rfl), trivial⟩ (k := ?_)
      exact absurd rfl ph47
    · have h48 : (decide (lineW r24.p = lineW r24.p)) = true := Bool.not_inj (y := true) h46
      have ph48 := of_decide_eq_true h48
      refine WC.skip ?_
      refine WX.blockN ?_
      refine WX.seqN ?_
      refine WC.region ?_
      refine WL.op (d := 15) (.int .i64 i) (k := ?_)
      refine WL.opE (d := 16) (.int .i64 (IntKind.i64.wrap (i + 1))) (v := .int .i64 (i + 1)) (congrArg (Value.int .i64) (IntWalk.i64_in _ (by omega))) (k := ?_)
      refine WL.op (d := 7) (.int .i64 (i + 1)) (k := ?_)
      refine WL.nil ?_
      refine WX.round (i + 1) (by show ((fewL l).length - (i + 1)).toNat < ((fewL l).length - i).toNat; omega) ⟨(by kernel_rfl), (by kernel_rfl), (by kernel_rfl), (by kernel_rfl), (by kernel_rfl), (by kernel_rfl), (by kernel_rfl), (by kernel_rfl), (by kernel_rfl), trivial⟩ ⟨K, (by omega), (by omega)⟩
  · have ph19 := of_decide_eq_false h19
    refine WC.exit ?_
    refine WX.seqE ?_
    refine WX.seqE ?_
    refine WX.blockE ?_
    refine WX.seqN ?_
    refine WC.seq ?_
    refine WC.mixed (fun _ => False) 15 (k := fun w49 k50 => ?_)
    replace K := K.trans (k50.any _)
    have KC := Keeps.refl (fun _ => False) w49
    have Kb := K
    refine WA.quiet 0 (d := 28) (.bool true) KC (hi := rfl) (k := ?_)
    refine WA.quiet 1 (d := 29) (.bool true) KC (hi := rfl) (k := ?_)
    refine WA.quiet 2 (d := 30) (.slice A10 ((fewL l).length) c11) KC (hi := rfl) (k := ?_)
    refine WA.quiet 4 (d := 32) (.slice A10 ((fewL l).length) c11) KC (hi := rfl) (k := ?_)
    refine WA.step 3 (hi := rfl) (k := ?_)
    refine WL.callG (d := 31) (f := 15) (args := #[.slice A10 ((fewL l).length) c11]) (lnText_c (cp := c11) (hG.keeps K (fun _ _ x => x)) (hs17.adds K) (Fts.le (hFf.adds K) (by omega)) (by first | omega | (simp; omega))) (k := fun e_ w52 h_ => ⟨.string ⟨(textW (List.map GCmd.p (fewL l))).toArray⟩, h_.1, ?_⟩)
    have k53 := h_.2; clear h_
    replace K := K.trans (k53.any _)
    replace KC := KC.trans (k53.any _)
    have tl51 := textW_len (ps := List.map GCmd.p (fewL l)) (by rw [List.length_map]; omega)
    refine WL.nil ?_
    refine WX.nxt KC ?_
    refine WA.step 5 (hi := rfl) (k := ?_)
    refine WL.callG (d := 33) (f := 16) (args := #[.slice A10 ((fewL l).length) c11]) (u25Text_c (cp := c11) (hs17.adds K) (Fts.le (hFf.adds K) (by omega)) (by first | omega | (simp; omega))) (k := fun e_ w55 h_ => ⟨.string ⟨(textW (List.map GCmd.p (fewL l))).toArray⟩, h_.1, ?_⟩)
    have k56 := h_.2; clear h_
    replace K := K.trans (k56.any _)
    replace KC := KC.trans (k56.any _)
    have tl54 := textW_len (ps := List.map GCmd.p (fewL l)) (by rw [List.length_map]; omega)
    refine WL.nil ?_
    refine WX.nxt KC ?_
    refine WA.quiet 6 (d := 34) (.bool (ByteArray.toList ⟨(textW (List.map GCmd.p (fewL l))).toArray⟩ == ByteArray.toList ⟨(textW (List.map GCmd.p (fewL l))).toArray⟩)) KC (hi := rfl) (k := ?_)
    refine WA.rw (t := 34) (v := .bool true) (str_eqs (textW (List.map GCmd.p (fewL l)))) (k := ?_)
    refine WA.quiet 7 (d := 35) (.bool true) KC (hi := rfl) (k := ?_)
    refine WA.quiet 8 (d := 36) (.bool true) KC (hi := rfl) (k := ?_)
    refine WA.quietR 9 (d := 37) (GTask.val t) KC (exec_load (fun w_ k_ => ldN (T := 29) (i := 0) (m := 5) (l := (Value.cells (GTask.val t)).toList) (k_.heap (Kb.heap hb4 id) id))) (hi := rfl) (k := ?_)
    refine WA.quietR 11 (d := 39) (GTask.val t) KC (exec_load (fun w_ k_ => ldN (T := 29) (i := 0) (m := 5) (l := (Value.cells (GTask.val t)).toList) (k_.heap (Kb.heap hb4 id) id))) (hi := rfl) (k := ?_)
    refine WA.step 10 (hi := rfl) (k := ?_)
    refine WL.callG (d := 38) (f := 17) (args := #[GTask.val t]) (lnTask_c t (hG.keeps K (fun _ _ x => x))) (k := fun e_ w57 h_ => ⟨.string ⟨(taskW t).toArray⟩, h_.1, ?_⟩)
    have k58 := h_.2; clear h_
    replace K := K.trans (k58.any _)
    replace KC := KC.trans (k58.any _)
    refine WL.nil ?_
    refine WX.nxt KC ?_
    refine WA.step 12 (hi := rfl) (k := ?_)
    refine WL.callG (d := 40) (f := 18) (args := #[GTask.val t]) (u25Task_c t w57) (k := fun e_ w60 h_ => ⟨.string ⟨(taskW t).toArray⟩, h_.1, ?_⟩)
    have k61 := h_.2; clear h_
    replace K := K.trans (k61.any _)
    replace KC := KC.trans (k61.any _)
    have tl59 := taskW_le t
    refine WL.nil ?_
    refine WX.nxt KC ?_
    refine WA.quiet 13 (d := 41) (.bool (ByteArray.toList ⟨(taskW t).toArray⟩ == ByteArray.toList ⟨(taskW t).toArray⟩)) KC (hi := rfl) (k := ?_)
    refine WA.rw (t := 41) (v := .bool true) (str_eqs (taskW t)) (k := ?_)
    refine WA.quiet 14 (d := 42) (.bool true) KC (hi := rfl) (k := ?_)
    refine WA.step 15 (hi := rfl) (k := ?_)
    refine WL.op (d := 4) (.bool true) (k := ?_)
    refine WL.nil ?_
    refine WX.nxtL ?_
    refine WA.done (k := ?_)
    clear KC
    refine WX.seqN ?_
    refine WC.ret ?_
    refine WX.ret (rs := [.tmp 4]) [.bool true] (.bool true) ⟨(by kernel_rfl), trivial⟩ (k := ?_)
    exact ⟨rfl, K0.trans K⟩
end Go.Proofs.YtoeinhlmkpgjhaaGreatDoor
namespace Go.Proofs.YtoeinhlmkpgjhaaGreatDoor
open Go.RowKit
set_option linter.unusedVariables false
theorem gb_ofz {W : World} (hsh : W.ShapedOpen Tryz.prog) (hL : laidMetH Tryz.prog Rows.linesWriteRow.laid W) : GB W := by
  refine ⟨?_, ?_, ?_⟩
  · exact cell_of_shapedOpen_int hsh (of_decide_eq_true (by kernel_rfl)) (zero := #[.int .i64 0]) (t := 3) (by kernel_rfl) rfl (by kernel_rfl) (by kernel_rfl) Tryz.underlying3
  · have h := hL.filter (fun x => x.1 == "internal/strconv.uint64pow10")
    rw [MakeChecks.laidMetH_plain _ _ _ (by kernel_rfl)] at h
    exact Lib.tabIs_of_head (rest := []) (n := 20) (e := 132) (g := 1) (t := (((Tryz.prog.globals[1]?).map (·.type)).getD 0)) (by kernel_rfl) (by kernel_rfl) (by kernel_rfl) (by kernel_rfl) (by kernel_rfl) (by kernel_rfl) h
  · have e : (((begin Tryz.prog (fun _ _ => 0) default).world.heap[5]?).bind Obj.row?).isSome = true := by kernel_rfl
    obtain ⟨⟨z, t⟩, hz⟩ := Option.isSome_iff_exists.1 e
    obtain ⟨cs, hh, _⟩ := hsh.1 5 z t (of_decide_eq_true (by kernel_rfl)) hz
    exact lt_of_heap hh
end Go.Proofs.YtoeinhlmkpgjhaaGreatDoor
namespace Go.Proofs.YtoeinhlmkpgjhaaGreatDoor
open Go.RowKit
set_option linter.unusedVariables false
end Go.Proofs.YtoeinhlmkpgjhaaGreatDoor
namespace Go.Proofs.YtoeinhlmkpgjhaaGreatDoor
open Go.RowKit
set_option linter.unusedVariables false
theorem isSlAtP {α : Type} {P : α → Prop} {cl : α → List Value} {m : Nat} {E : TypeId} {El : World → List Value → Prop} {w : World} (hel : ∀ es, El w es → ∃ x, es = cl x ∧ P x) (hl : ∀ x, (cl x).length = m) (hm : 0 < m) {A : Option Addr} {n c : Nat} (h : IsSl m El w [.slice A n c]) :
    ∃ xs : List α, n = xs.length ∧ SlAt cl m E A xs w ∧ xs.length ≤ c ∧ c ≤ maxLen ∧ ∀ x ∈ xs, P x := by
  rcases h with h | ⟨a, len, cap, h, hlc, hcm, hi⟩
  · simp only [List.cons.injEq, Value.slice.injEq, and_true] at h
    obtain ⟨rfl, rfl, rfl⟩ := h
    exact ⟨[], rfl, .inl rfl, Nat.le_refl _, Nat.zero_le _, by simp⟩
  · simp only [List.cons.injEq, Value.slice.injEq, and_true] at h
    obtain ⟨rfl, rfl, rfl⟩ := h
    by_cases h0 : n = 0
    · subst h0; exact ⟨[], rfl, .inl rfl, by simp, hcm, by simp⟩
    have hex : ∀ i : Fin n, ∃ x : α, (∀ j, j < m → w.cell? ((a.add (i.1 * m)).add j) = (cl x)[j]?) ∧ P x := fun i => by
      obtain ⟨es, h1, h2, h3⟩ := hi i.1 i.2
      obtain ⟨x, rfl, hp⟩ := hel es h3
      exact ⟨x, h2, hp⟩
    obtain ⟨f, hex2⟩ := Classical.axiomOfChoice hex
    have hex' := fun i => (hex2 i).1
    refine ⟨List.ofFn f, by simp, .inr ?_, by simpa using hlc, hcm, fun x hx => by obtain ⟨i, rfl⟩ := List.mem_ofFn.1 hx; exact (hex2 i).2⟩
    have hc0 := hex' ⟨0, by omega⟩ 0 hm
    have hs : ∃ v, (cl (f ⟨0, by omega⟩))[0]? = some v := ⟨_, List.getElem?_eq_getElem (by rw [hl]; exact hm)⟩
    obtain ⟨v, hv⟩ := hs
    rw [hv] at hc0
    simp only [Nat.zero_mul, addr_add0] at hc0
    obtain ⟨b, o, sp⟩ := a
    have hsp : sp = none := World.cell?_spot hc0
    subst hsp
    have hc : ∀ (i : Fin n) j, j < m → w.cell? ⟨b, o + i.1 * m + j, none⟩ = (cl (f i))[j]? := fun i j hj => by
      have := hex' i j hj
      rwa [addr_add, addr_add] at this
    unfold World.cell? at hc hc0
    cases hb : w.heap[b]? with
    | none => simp [hb] at hc0
    | some ob =>
      cases ob with
      | cells cs E' fz =>
        simp only [hb, Option.isSome_none, Bool.false_eq_true, if_false] at hc
        refine ⟨b, o, cs, E', fz, rfl, hb, ?_, fun i r hr => ?_⟩
        · rw [List.length_ofFn]
          have h1 := hc ⟨n - 1, by omega⟩ (m - 1) (by omega)
          have h2 : (cl (f ⟨n - 1, by omega⟩))[m - 1]? = some _ := List.getElem?_eq_getElem (by rw [hl]; omega)
          rw [h2] at h1
          have h3 := (Array.getElem?_eq_some_iff.1 h1).1
          have h4 : (n - 1) * m + m = n * m := by
            have : n = n - 1 + 1 := by omega
            conv => rhs; rw [this, Nat.add_mul, Nat.one_mul]
          simp only at h3
          omega
        · have hlt : i < n := by have := (List.getElem?_eq_some_iff.1 hr).1; simpa using this
          rw [List.getElem?_ofFn, dif_pos hlt] at hr
          cases hr
          refine List.ext_getElem? fun j => ?_
          by_cases hj : j < m
          · rw [List.getElem?_take_of_lt hj, List.getElem?_drop, ← hc ⟨i, hlt⟩ j hj]; simp
          · rw [List.getElem?_eq_none (by rw [List.length_take]; omega), List.getElem?_eq_none (by rw [hl]; omega)]
      | _ => simp [hb] at hc0
theorem isSlAt {α : Type} {cl : α → List Value} {m : Nat} {E : TypeId} {El : World → List Value → Prop} {w : World} (hel : ∀ es, El w es → ∃ x, es = cl x) (hl : ∀ x, (cl x).length = m) (hm : 0 < m) {A : Option Addr} {n c : Nat} (h : IsSl m El w [.slice A n c]) :
    ∃ xs : List α, n = xs.length ∧ SlAt cl m E A xs w ∧ xs.length ≤ c ∧ c ≤ maxLen := by
  obtain ⟨xs, h1, h2, h3, h4, _⟩ := isSlAtP (P := fun _ => True) (E := E) (fun es he => by obtain ⟨x, hx⟩ := hel es he; exact ⟨x, hx, trivial⟩) hl hm h
  exact ⟨xs, h1, h2, h3, h4⟩
end Go.Proofs.YtoeinhlmkpgjhaaGreatDoor
namespace Go.Proofs.YtoeinhlmkpgjhaaGreatDoor
open Go.RowKit
set_option linter.unusedVariables false
theorem i64_wf {x : Int} (h2 : (Lit.int .i64 x).wf = true) : i64B x := by
  simp [Lit.wf, IntKind.min, IntKind.max, IntKind.signed, IntKind.bits] at h2
  exact ⟨by omega, by omega⟩
theorem isOp {w : World} {cs : Array Value} (h : IsOp w cs.toList) : ∃ o : GOp, o.wf ∧ Value.agg cs = o.val := by
  obtain ⟨l⟩ := cs
  obtain ⟨c0, c1, c2, c3, c4, c5, rfl, ⟨k, rfl, hk⟩, ⟨t0, t1, t2, t3, t4, rfl, ⟨a, rfl, ha⟩, ⟨b, rfl, hb⟩, ⟨c, rfl, hc⟩, ⟨d, rfl, hd⟩, ⟨e, rfl, he⟩⟩, ⟨sv, rfl⟩, ⟨i, rfl, hi⟩, ⟨cc, rfl, hcc⟩, ⟨m, rfl, hm⟩⟩ := h
  exact ⟨⟨k, ⟨a, b, c, d, e⟩, sv, i, cc, m⟩, ⟨i64_wf hk, ⟨i64_wf ha, i64_wf hb, i64_wf hc, i64_wf hd, i64_wf he⟩, i64_wf hi, i64_wf hcc, i64_wf hm⟩, rfl⟩
end Go.Proofs.YtoeinhlmkpgjhaaGreatDoor
namespace Go.Proofs.YtoeinhlmkpgjhaaGreatDoor
open Go.RowKit
set_option linter.unusedVariables false
theorem isFate {w : World} {cs : List Value} (h : IsFate w cs) : ∃ f : GFate, cs = fateC f := by
  obtain ⟨c0, c1, rfl, ⟨k, rfl, hk⟩, ⟨a, rfl, ha⟩⟩ := h
  exact ⟨⟨k, a⟩, rfl⟩
theorem isCmd {w : World} {cs : List Value} (h : IsCmd w cs) : ∃ c : GCmd, cs = cmdC c ∧ SlAt fateC 2 72 c.A c.p.fs w ∧ c.p.fs.length ≤ c.cap ∧ c.p.fs.length ≤ 9223372036854775807 := by
  obtain ⟨c0, c1, c2, c3, c4, c5, rfl, ⟨k, rfl, hk⟩, ho, ⟨i, rfl, hi⟩, ⟨wk, rfl, hwk⟩, ⟨n, rfl, hn⟩, hs⟩ := h
  obtain ⟨o, _, hov⟩ := isOp (cs := c1.toArray) (by simpa using ho)
  simp only [Value.agg.injEq] at hov
  have hov : c1 = [.int .i64 o.kind, .int .i64 o.task.id, .int .i64 o.task.c, .int .i64 o.task.d, .int .i64 o.task.t, .int .i64 o.task.m, .bool o.sv, .int .i64 o.id, .int .i64 o.c, .int .i64 o.m] := by
    have := congrArg Array.toList hov; simpa using this
  subst hov
  have hv : ∃ A n c, c5 = [.slice A n c] := by
    rcases hs with rfl | ⟨a, len, cap, rfl, _⟩ <;> exact ⟨_, _, _, rfl⟩
  obtain ⟨A, m, c, rfl⟩ := hv
  obtain ⟨fs, rfl, h1, h2, h3⟩ := isSlAt (cl := fateC) (E := 72) (fun es h => isFate h) (fun _ => rfl) (by decide) hs
  exact ⟨⟨⟨k, o, i, wk, n, fs⟩, A, c⟩, rfl, h1, h2, by unfold maxLen at h3; simp only; omega⟩
theorem isCmds {w : World} {A : Option Addr} {n c : Nat} (h : IsSl 15 (fun w c => IsCmd w c) w [.slice A n c]) : ∃ l : List GCmd, n = l.length ∧ SlAt cmdC 15 39 A l w ∧ Fts 9223372036854775807 l w ∧ l.length ≤ 9223372036854775807 := by
  obtain ⟨xs, h1, h2, h3, h4, h5⟩ := isSlAtP (cl := cmdC) (E := 39) (fun es h => isCmd h) (fun _ => rfl) (by decide) h
  exact ⟨xs, h1, h2, h5, by unfold maxLen at h4; omega⟩
end Go.Proofs.YtoeinhlmkpgjhaaGreatDoor
