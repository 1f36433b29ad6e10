/- Chapter 23. -/
import Derived.Test.YtfpdfjbooalgjaaSc5
import Derived.Test.YtfpdfjbooalgjaaSc2b
namespace Go.Proofs.Ytfpdfjbooalgjaa
open Go.RowKit
set_option linter.unusedVariables false
set_option linter.unusedSimpArgs false

set_option maxRecDepth 100000 in
theorem l23awake_c (w : World) : Calls Try.prog 7 #[] w fun e w' => e = .returned (.bool true) ∧ Adds w w' := by
  have K : Keeps (fun _ => False) w w := Keeps.refl _ w
  refine Calls.start Try.func7 rfl (by kernel_rfl) ?_
  refine WC.seq ?_
  refine WC.region ?_
  refine WL.op (d := 0) (.bool false) (k := ?_)
  refine WL.nil ?_
  refine WX.seqN ?_
  refine WC.seq ?_
  refine WC.region ?_
  refine WL.op (d := 1) (.agg #[.int .i64 4, .int .i64 0, .int .i64 0, .int .i64 0, .int .i64 0, .int .i64 0, .int .i64 0, .bool false, .int .i64 0, .int .i64 0, .int .i64 0, .int .i64 0, .int .i64 0, .int .i64 3, .slice none 0 0]) (k := ?_)
  refine WL.op (d := 2) (.agg #[.int .i64 9, .int .i64 0, .int .i64 0, .int .i64 0, .int .i64 0, .int .i64 0, .int .i64 0, .bool false, .int .i64 0, .int .i64 0, .int .i64 0, .int .i64 0, .int .i64 0, .int .i64 0, .slice none 0 0]) (k := ?_)
  refine WL.newF (d := 3) (T := 32) #[.int .i64 4, .int .i64 0, .int .i64 0, .int .i64 0, .int .i64 0, .int .i64 0, .int .i64 0, .bool false, .int .i64 0, .int .i64 0, .int .i64 0, .int .i64 0, .int .i64 0, .int .i64 3, .slice none 0 0, .int .i64 9, .int .i64 0, .int .i64 0, .int .i64 0, .int .i64 0, .int .i64 0, .int .i64 0, .bool false, .int .i64 0, .int .i64 0, .int .i64 0, .int .i64 0, .int .i64 0, .int .i64 0, .slice none 0 0] (fun b => .slice (some ⟨b, 0, none⟩) 2 2) (k := fun b1 w2 g3 hb4 k5 => ?_)
  have z6 := Nat.le_trans K.size g3
  replace K := K.trans (k5.any _)
  refine WL.callG (d := 4) (f := 13) (args := #[.slice (some ⟨b1, 0, none⟩) 2 2]) (sBytes_c (xs := [(⟨⟨4, (⟨0, ⟨0, 0, 0, 0, 0⟩, false, 0, 0, 0⟩ : GOp), 0, 0, 3, []⟩, none, 0⟩ : GCmd), (⟨⟨9, (⟨0, ⟨0, 0, 0, 0, 0⟩, false, 0, 0, 0⟩ : GOp), 0, 0, 0, []⟩, none, 0⟩ : GCmd)]) (cp := 2) (SlAt.of_lit (ys := [(⟨⟨4, (⟨0, ⟨0, 0, 0, 0, 0⟩, false, 0, 0, 0⟩ : GOp), 0, 0, 3, []⟩, none, 0⟩ : GCmd), (⟨⟨9, (⟨0, ⟨0, 0, 0, 0, 0⟩, false, 0, 0, 0⟩ : GOp), 0, 0, 0, []⟩, none, 0⟩ : GCmd)]) ekCmd hb4 (by kernel_rfl)) (fun c hc => by simp only [List.mem_cons, List.not_mem_nil, or_false] at hc; rcases hc with rfl | rfl <;> exact ⟨.inl rfl, by simp, by simp⟩) (by simp)) (k := fun e_ w7 h_ => ⟨.string ⟨(bytesC ([(⟨⟨4, (⟨0, ⟨0, 0, 0, 0, 0⟩, false, 0, 0, 0⟩ : GOp), 0, 0, 3, []⟩, none, 0⟩ : GCmd), (⟨⟨9, (⟨0, ⟨0, 0, 0, 0, 0⟩, false, 0, 0, 0⟩ : GOp), 0, 0, 0, []⟩, none, 0⟩ : GCmd)].map GCmd.p)).toArray⟩, h_.1, ?_⟩)
  have k8 := h_.2; clear h_
  replace hb4 := k8.heap hb4 id
  replace K := K.trans (k8.any _)
  refine WL.opE (d := 5) (.bool (ByteArray.toList ⟨(bytesC ([(⟨⟨4, (⟨0, ⟨0, 0, 0, 0, 0⟩, false, 0, 0, 0⟩ : GOp), 0, 0, 3, []⟩, none, 0⟩ : GCmd), (⟨⟨9, (⟨0, ⟨0, 0, 0, 0, 0⟩, false, 0, 0, 0⟩ : GOp), 0, 0, 0, []⟩, none, 0⟩ : GCmd)].map GCmd.p)).toArray⟩ == ByteArray.toList ⟨([1, 4, 1, 3, 1, 9]).toArray⟩)) (v := .bool (decide (bytesC ([(⟨⟨4, (⟨0, ⟨0, 0, 0, 0, 0⟩, false, 0, 0, 0⟩ : GOp), 0, 0, 3, []⟩, none, 0⟩ : GCmd), (⟨⟨9, (⟨0, ⟨0, 0, 0, 0, 0⟩, false, 0, 0, 0⟩ : GOp), 0, 0, 0, []⟩, none, 0⟩ : GCmd)].map GCmd.p) = [1, 4, 1, 3, 1, 9]))) (str_eql _ _) (k := ?_)
  refine WL.op (d := 6) (.bool (decide (bytesC ([(⟨⟨4, (⟨0, ⟨0, 0, 0, 0, 0⟩, false, 0, 0, 0⟩ : GOp), 0, 0, 3, []⟩, none, 0⟩ : GCmd), (⟨⟨9, (⟨0, ⟨0, 0, 0, 0, 0⟩, false, 0, 0, 0⟩ : GOp), 0, 0, 0, []⟩, none, 0⟩ : GCmd)].map GCmd.p) = [1, 4, 1, 3, 1, 9]))) (k := ?_)
  refine bsplit (decide (bytesC ([(⟨⟨4, (⟨0, ⟨0, 0, 0, 0, 0⟩, false, 0, 0, 0⟩ : GOp), 0, 0, 3, []⟩, none, 0⟩ : GCmd), (⟨⟨9, (⟨0, ⟨0, 0, 0, 0, 0⟩, false, 0, 0, 0⟩ : GOp), 0, 0, 0, []⟩, none, 0⟩ : GCmd)].map GCmd.p) = [1, 4, 1, 3, 1, 9])) (fun h9 => ?_) (fun h9 => ?_)
  · have ph9 := of_decide_eq_true h9
    refine WL.rw (t := 6) (v := .bool true) (congrArg Value.bool h9) (k := ?_)
    refine WL.op (d := 7) (.agg #[.int .i64 6, .int .i64 0, .int .i64 0, .int .i64 0, .int .i64 0, .int .i64 0, .int .i64 0, .bool false, .int .i64 0, .int .i64 0, .int .i64 0, .int .i64 0, .int .i64 0, .int .i64 0, .slice none 0 0]) (k := ?_)
    refine WL.callG (d := 8) (f := 9) (args := #[.agg #[.int .i64 6, .int .i64 0, .int .i64 0, .int .i64 0, .int .i64 0, .int .i64 0, .int .i64 0, .bool false, .int .i64 0, .int .i64 0, .int .i64 0, .int .i64 0, .int .i64 0, .int .i64 0, .slice none 0 0]]) (sCheck_c (c := (⟨⟨6, (⟨0, ⟨0, 0, 0, 0, 0⟩, false, 0, 0, 0⟩ : GOp), 0, 0, 0, []⟩, none, 0⟩ : GCmd)) SlAt.nil (by first | omega | simp)) (k := fun e_ w10 h_ => ⟨.bool (cokB (⟨⟨6, (⟨0, ⟨0, 0, 0, 0, 0⟩, false, 0, 0, 0⟩ : GOp), 0, 0, 0, []⟩, none, 0⟩ : GCmd).p), h_.1, ?_⟩)
    have k11 := h_.2; clear h_
    replace hb4 := k11.heap hb4 id
    replace K := K.trans (k11.any _)
    refine WL.op (d := 9) (.bool (cokB (⟨⟨6, (⟨0, ⟨0, 0, 0, 0, 0⟩, false, 0, 0, 0⟩ : GOp), 0, 0, 0, []⟩, none, 0⟩ : GCmd).p)) (k := ?_)
    refine WL.op (d := 0) (.bool (cokB (⟨⟨6, (⟨0, ⟨0, 0, 0, 0, 0⟩, false, 0, 0, 0⟩ : GOp), 0, 0, 0, []⟩, none, 0⟩ : GCmd).p)) (k := ?_)
    refine WL.nil ?_
    refine WX.seqN ?_
    refine WC.ret ?_
    refine WX.ret (rs := [.tmp 0]) [.bool (cokB (⟨⟨6, (⟨0, ⟨0, 0, 0, 0, 0⟩, false, 0, 0, 0⟩ : GOp), 0, 0, 0, []⟩, none, 0⟩ : GCmd).p)] (.bool (cokB (⟨⟨6, (⟨0, ⟨0, 0, 0, 0, 0⟩, false, 0, 0, 0⟩ : GOp), 0, 0, 0, []⟩, none, 0⟩ : GCmd).p)) ⟨(by kernel_rfl), trivial⟩ (k := ?_)
    exact ⟨ret_bool aw_six, K⟩
  · have ph9 := of_decide_eq_false h9
    refine WL.rw (t := 6) (v := .bool false) (congrArg Value.bool h9) (k := ?_)
    refine WL.skip (d := 7) (k := ?_)
    refine WL.skip (d := 8) (k := ?_)
    refine WL.op (d := 9) (.bool false) (k := ?_)
    refine WL.op (d := 0) (.bool false) (k := ?_)
    refine WL.nil ?_
    refine WX.seqN ?_
    refine WC.ret ?_
    refine WX.ret (rs := [.tmp 0]) [.bool false] (.bool false) ⟨(by kernel_rfl), trivial⟩ (k := ?_)
    exact absurd (aw_bytes _ _ _ _) ph9

set_option maxRecDepth 100000 in
set_option maxHeartbeats 4000000 in
theorem l23few_c {L : Option Addr} {lc : Nat} {l : List GCmd} {w : World} (hL : SlAt cmdC 15 32 L l w) (hF : Fts 9223372036854775807 l w) (hl : l.length ≤ 9223372036854775807) : Calls Try.prog 8 #[.slice L l.length lc] w fun e w' => ∃ A c, e = .returned (.slice A (fewL l).length c) ∧ OwAt cmdC 15 32 A c (fewL l) w' ∧ Adds w w' ∧ (∀ i, blk A = some i → w.heap.size ≤ i) := by
  have K : Keeps (fun _ => False) w w := Keeps.refl _ w
  refine Calls.start Try.func8 rfl (by kernel_rfl) ?_
  refine WC.seq ?_
  refine WC.region ?_
  refine WL.op (d := 2) (.slice none 0 0) (k := ?_)
  refine WL.nil ?_
  refine WX.seqN ?_
  refine WC.seq ?_
  refine WC.region ?_
  refine WL.op (d := 3) (.slice none 0 0) (k := ?_)
  refine WL.nil ?_
  refine WX.seqN ?_
  refine WC.seq ?_
  refine WC.seq ?_
  refine WC.region ?_
  refine WL.op (d := 4) (.int .i64 0) (k := ?_)
  refine WL.nil ?_
  refine WX.seqN ?_
  refine WC.block ?_
  refine WC.loop (ι := Int × (Option Addr) × Nat) (fun (⟨i, Ao, co⟩ : Int × (Option Addr) × Nat) => [(0, .slice L l.length lc), (2, .slice none 0 0), (4, .int .i64 i), (3, .slice Ao ((fewU l i).length) co)]) (fun (⟨i, Ao, co⟩ : Int × (Option Addr) × Nat) (w_ : World) => (Keeps (fun _ => False) w w_) ∧ (OwAt cmdC 15 32 Ao co (fewU l i) w_) ∧ (∀ i, blk Ao = some i → w.heap.size ≤ i) ∧ (0 ≤ i) ∧ (i ≤ l.length) ∧ (i ≤ 6)) (fun (⟨i, Ao, co⟩ : Int × (Option Addr) × Nat) => (l.length - i).toNat) (0, none, 0) ⟨(by kernel_rfl), (by kernel_rfl), (by kernel_rfl), (by kernel_rfl), trivial⟩ ⟨K, OwAt.nil, (by simp [blk]), Int.le_refl 0, (by omega), (by decide)⟩ ?_
  rintro ⟨i, Ao, co⟩ w1 ⟨K, hb2, ol3, i0, i1, i6⟩
  have lm_ := fewU_len l i6
  refine WC.seq ?_
  refine WC.seq ?_
  refine WC.region ?_
  refine WL.op (d := 6) (.int .i64 i) (k := ?_)
  refine WL.op (d := 7) (.slice L l.length lc) (k := ?_)
  refine WL.op (d := 8) (.int .i64 (l.length : Int)) (k := ?_)
  refine WL.op (d := 9) (.bool (decide (i < (l.length : Int)))) (k := ?_)
  refine WL.op (d := 10) (.bool (decide (i < (l.length : Int)))) (k := ?_)
  refine bsplit (decide (i < (l.length : Int))) (fun h4 => ?_) (fun h4 => ?_)
  · have ph4 := of_decide_eq_true h4
    refine WL.rw (t := 10) (v := .bool true) (congrArg Value.bool h4) (k := ?_)
    refine WL.op (d := 11) (.int .i64 i) (k := ?_)
    refine WL.op (d := 12) (.bool (decide (i < 6))) (k := ?_)
    refine WL.op (d := 13) (.bool (decide (i < 6))) (k := ?_)
    refine WL.nil ?_
    refine WX.seqN ?_
    refine WC.cond (b := decide (i < 6)) (ht := fun h5 => ?_) (hf := fun h5 => ?_)
    · have ph5 := of_decide_eq_true h5
      refine WC.skip ?_
      refine WX.seqN ?_
      refine WC.seq ?_
      refine WC.block ?_
      refine WC.seq ?_
      refine WC.region ?_
      refine WL.op (d := 16) (.slice L l.length lc) (k := ?_)
      refine WL.op (d := 17) (.int .i64 i) (k := ?_)
      obtain ⟨b6, o7, r8, hr9, hA10, he11⟩ := SlAt.at hL (i := i) (by omega) (by omega)
      refine WL.rw (t := 16) (v := .slice (some ⟨b6, o7, none⟩) l.length lc) (congrArg (fun a => Value.slice a l.length lc) hA10) (k := ?_)
      obtain ⟨hs12, hc13, hl14⟩ := fts_mem hF hr9
      refine WL.idx (T := 22) (E := 32) (m := 15) (b := b6) (o := o7) (len := l.length) (cap := lc) (i := i) (kk := .i64) (d := 18) (by omega) (by omega) (k := ?_)
      refine WL.rw (t := 16) (v := .slice L l.length lc) (congrArg (fun a => Value.slice a l.length lc) (Eq.symm hA10)) (k := ?_)
      refine WL.load (v := GCmd.val r8) ((he11.adds K).ldW (T := 32)) (k := ?_)
      refine WL.new (d := 5) (T := 32) #[.int .i64 0, .int .i64 0, .int .i64 0, .int .i64 0, .int .i64 0, .int .i64 0, .int .i64 0, .bool false, .int .i64 0, .int .i64 0, .int .i64 0, .int .i64 0, .int .i64 0, .int .i64 0, .slice none 0 0] (k := fun b15 w16 g17 hb18 k19 => ?_)
      have z20 := Nat.le_trans K.size g17
      have n21 := OwAt.off_new hb2 g17
      replace hb2 := hb2.adds k19
      replace K := K.trans (k19.any _)
      refine WL.store (v := GCmd.val r8) (i := 0) (cs' := (Value.cells (GCmd.val r8))) hb18 (k := fun w22 hb23 k24 => ?_)
      replace hb2 := hb2.keeps k24 (fun i hi e => (n21) (e ▸ hi))
      replace K := K.trans' k24 (fun i hi e => absurd (e ▸ hi) (Nat.not_lt.2 z20))
      clear hb18
      refine WL.nil ?_
      refine WX.seqN ?_
      refine WC.seq ?_
      refine WC.seq ?_
      refine WC.region ?_
      refine WL.op (d := 20) (.pointer (some ⟨b15, 14, none⟩)) (k := ?_)
      refine WL.load (v := .slice r8.A r8.p.fs.length r8.cap) (ld1 (T := 30) (i := 14) hb23) (k := ?_)
      refine WL.op (d := 22) (.int .i64 (r8.p.fs.length : Int)) (k := ?_)
      refine WL.op (d := 23) (.bool (decide ((r8.p.fs.length : Int) > 66))) (k := ?_)
      refine WL.nil ?_
      refine WX.seqN ?_
      refine WC.cond (b := decide ((r8.p.fs.length : Int) > 66)) (ht := fun h25 => ?_) (hf := fun h25 => ?_)
      · have ph25 := of_decide_eq_true h25
        refine WC.region ?_
        refine WL.op (d := 24) (.pointer (some ⟨b15, 14, none⟩)) (k := ?_)
        refine WL.load (v := .slice r8.A r8.p.fs.length r8.cap) (ld1 (T := 30) (i := 14) hb23) (k := ?_)
        have hs26 := SlAt.cutT (b := 66) (c := r8.cap) hs12 (by omega) (by omega)
        refine WL.cut (d := 26) (vx := .slice r8.A r8.p.fs.length r8.cap) (lo' := none) (hi' := (some (.int .i64 66))) (mx' := none) (v := .slice r8.A ((List.take 66 r8.p.fs).length) r8.cap) (run_cutSl (a := 0) (b := 66) (c := r8.cap) (m := 2) (E := 50) (by kernel_rfl) (by kernel_rfl) (.inl ⟨rfl, rfl⟩) (.inr ⟨_, _, rfl, by omega⟩) (.inl ⟨rfl, rfl⟩) (by omega) (by omega) (cutA_zero _ _ _) (by simp <;> omega) (by omega)) (k := ?_)
        refine WL.op (d := 27) (.pointer (some ⟨b15, 14, none⟩)) (k := ?_)
        refine WL.store (v := .slice r8.A ((List.take 66 r8.p.fs).length) r8.cap) (i := 14) (cs' := #[.int .i64 r8.p.kind, .int .i64 r8.p.op.kind, .int .i64 r8.p.op.task.id, .int .i64 r8.p.op.task.c, .int .i64 r8.p.op.task.d, .int .i64 r8.p.op.task.t, .int .i64 r8.p.op.task.m, .bool r8.p.op.sv, .int .i64 r8.p.op.id, .int .i64 r8.p.op.c, .int .i64 r8.p.op.m, .int .i64 r8.p.id, .int .i64 r8.p.work, .int .i64 r8.p.n, .slice r8.A ((List.take 66 r8.p.fs).length) r8.cap]) hb23 (k := fun w27 hb28 k29 => ?_)
        replace hb2 := hb2.keeps k29 (fun i hi e => (n21) (e ▸ hi))
        replace K := K.trans' k29 (fun i hi e => absurd (e ▸ hi) (Nat.not_lt.2 z20))
        clear hb23
        refine WL.nil ?_
        refine WX.seqN ?_
        refine WC.region ?_
        refine WL.op (d := 28) (.slice Ao ((fewU l i).length) co) (k := ?_)
        refine WL.load (v := .agg #[.int .i64 r8.p.kind, .int .i64 r8.p.op.kind, .int .i64 r8.p.op.task.id, .int .i64 r8.p.op.task.c, .int .i64 r8.p.op.task.d, .int .i64 r8.p.op.task.t, .int .i64 r8.p.op.task.m, .bool r8.p.op.sv, .int .i64 r8.p.op.id, .int .i64 r8.p.op.c, .int .i64 r8.p.op.m, .int .i64 r8.p.id, .int .i64 r8.p.work, .int .i64 r8.p.n, .slice r8.A ((List.take 66 r8.p.fs).length) r8.cap]) (ldN (T := 32) (i := 0) (m := 15) (l := [.int .i64 r8.p.kind, .int .i64 r8.p.op.kind, .int .i64 r8.p.op.task.id, .int .i64 r8.p.op.task.c, .int .i64 r8.p.op.task.d, .int .i64 r8.p.op.task.t, .int .i64 r8.p.op.task.m, .bool r8.p.op.sv, .int .i64 r8.p.op.id, .int .i64 r8.p.op.c, .int .i64 r8.p.op.m, .int .i64 r8.p.id, .int .i64 r8.p.work, .int .i64 r8.p.n, .slice r8.A ((List.take 66 r8.p.fs).length) r8.cap]) hb28) (k := ?_)
        refine WL.newF (d := 30) (T := 32) #[.int .i64 r8.p.kind, .int .i64 r8.p.op.kind, .int .i64 r8.p.op.task.id, .int .i64 r8.p.op.task.c, .int .i64 r8.p.op.task.d, .int .i64 r8.p.op.task.t, .int .i64 r8.p.op.task.m, .bool r8.p.op.sv, .int .i64 r8.p.op.id, .int .i64 r8.p.op.c, .int .i64 r8.p.op.m, .int .i64 r8.p.id, .int .i64 r8.p.work, .int .i64 r8.p.n, .slice r8.A ((List.take 66 r8.p.fs).length) r8.cap] (fun b => .slice (some ⟨b, 0, none⟩) 1 1) (k := fun b30 w31 g32 hb33 k34 => ?_)
        have z35 := Nat.le_trans K.size g32
        have n36 := OwAt.off_new hb2 g32
        have n37 : b15 ≠ b30 := Nat.ne_of_lt (Nat.lt_of_lt_of_le (lt_of_heap hb28) g32)
        replace hb2 := hb2.adds k34
        replace hb28 := k34.heap hb28 id
        replace K := K.trans (k34.any _)
        refine WL.append (d := 31) (T := 22) (cl := cmdC) (xs := fewU l i) (ys := [(⟨⟨r8.p.kind, r8.p.op, r8.p.id, r8.p.work, r8.p.n, List.take 66 r8.p.fs⟩, r8.A, r8.cap⟩ : GCmd)]) (c := 1) ekCmd hb2 (SlAt.of_lit (ys := [(⟨⟨r8.p.kind, r8.p.op, r8.p.id, r8.p.work, r8.p.n, List.take 66 r8.p.fs⟩, r8.A, r8.cap⟩ : GCmd)]) ekCmd hb33 (by kernel_rfl)) (by simp; omega) (k := fun A38 c39 w40 ho41 k42 n43 => ?_)
        have ol44 := olink_step ol3 K n43
        have n45 := off_step n43 n21 (lt_of_heap hb28)
        replace hb28 := k42.heap hb28 n21
        replace K := K.trans' k42 (fun i hi e => absurd hi (Nat.not_lt.2 (ol3 i e)))
        clear hb2
        refine WL.op (d := 3) (.slice A38 ((fewU l i ++ [(⟨⟨r8.p.kind, r8.p.op, r8.p.id, r8.p.work, r8.p.n, List.take 66 r8.p.fs⟩, r8.A, r8.cap⟩ : GCmd)]).length) c39) (k := ?_)
        refine WL.nil ?_
        refine WX.blockN ?_
        refine WX.seqN ?_
        refine WC.region ?_
        refine WL.op (d := 14) (.int .i64 i) (k := ?_)
        refine WL.opE (d := 15) (.int .i64 (IntKind.i64.wrap (i + 1))) (v := .int .i64 (i + 1)) (congrArg (Value.int .i64) (IntWalk.i64_in _ (by omega))) (k := ?_)
        refine WL.op (d := 4) (.int .i64 (i + 1)) (k := ?_)
        refine WL.nil ?_
        have e46 : fewU l i ++ [(⟨⟨r8.p.kind, r8.p.op, r8.p.id, r8.p.work, r8.p.n, List.take 66 r8.p.fs⟩, r8.A, r8.cap⟩ : GCmd)] = fewU l (i + 1) := few_s1 i0 hr9 ph25
        rw [e46] at ho41
        refine WX.rw (t := 3) (v := .slice A38 ((fewU l (i + 1)).length) c39) (congrArg (fun l => Value.slice A38 (List.length l) c39) e46) (k := ?_)
        refine WX.round (i + 1, A38, c39) (by show (l.length - (i + 1)).toNat < (l.length - i).toNat; omega) ⟨(by kernel_rfl), (by kernel_rfl), (by kernel_rfl), (by kernel_rfl), trivial⟩ ⟨K, ho41, ol44, (by omega), (by omega), (by omega)⟩
      · have ph25 := of_decide_eq_false h25
        refine WC.skip ?_
        refine WX.seqN ?_
        refine WC.region ?_
        refine WL.op (d := 28) (.slice Ao ((fewU l i).length) co) (k := ?_)
        refine WL.load (v := GCmd.val r8) (ldN (T := 32) (i := 0) (m := 15) (l := (Value.cells (GCmd.val r8)).toList) hb23) (k := ?_)
        refine WL.newF (d := 30) (T := 32) (Value.cells (GCmd.val r8)) (fun b => .slice (some ⟨b, 0, none⟩) 1 1) (k := fun b47 w48 g49 hb50 k51 => ?_)
        have z52 := Nat.le_trans K.size g49
        have n53 := OwAt.off_new hb2 g49
        have n54 : b15 ≠ b47 := Nat.ne_of_lt (Nat.lt_of_lt_of_le (lt_of_heap hb23) g49)
        replace hb2 := hb2.adds k51
        replace hb23 := k51.heap hb23 id
        replace K := K.trans (k51.any _)
        refine WL.append (d := 31) (T := 22) (cl := cmdC) (xs := fewU l i) (ys := [r8]) (c := 1) ekCmd hb2 (SlAt.of_lit (ys := [r8]) ekCmd hb50 (by kernel_rfl)) (by simp; omega) (k := fun A55 c56 w57 ho58 k59 n60 => ?_)
        have ol61 := olink_step ol3 K n60
        have n62 := off_step n60 n21 (lt_of_heap hb23)
        replace hb23 := k59.heap hb23 n21
        replace K := K.trans' k59 (fun i hi e => absurd hi (Nat.not_lt.2 (ol3 i e)))
        clear hb2
        refine WL.op (d := 3) (.slice A55 ((fewU l i ++ [r8]).length) c56) (k := ?_)
        refine WL.nil ?_
        refine WX.blockN ?_
        refine WX.seqN ?_
        refine WC.region ?_
        refine WL.op (d := 14) (.int .i64 i) (k := ?_)
        refine WL.opE (d := 15) (.int .i64 (IntKind.i64.wrap (i + 1))) (v := .int .i64 (i + 1)) (congrArg (Value.int .i64) (IntWalk.i64_in _ (by omega))) (k := ?_)
        refine WL.op (d := 4) (.int .i64 (i + 1)) (k := ?_)
        refine WL.nil ?_
        have e63 : fewU l i ++ [r8] = fewU l (i + 1) := few_s2 i0 hr9 ph25
        rw [e63] at ho58
        refine WX.rw (t := 3) (v := .slice A55 ((fewU l (i + 1)).length) c56) (congrArg (fun l => Value.slice A55 (List.length l) c56) e63) (k := ?_)
        refine WX.round (i + 1, A55, c56) (by show (l.length - (i + 1)).toNat < (l.length - i).toNat; omega) ⟨(by kernel_rfl), (by kernel_rfl), (by kernel_rfl), (by kernel_rfl), trivial⟩ ⟨K, ho58, ol61, (by omega), (by omega), (by omega)⟩
    · have ph5 := of_decide_eq_false h5
      refine WC.exit ?_
      refine WX.seqE ?_
      refine WX.seqE ?_
      refine WX.blockE ?_
      refine WX.seqN ?_
      refine WC.seq ?_
      refine WC.region ?_
      refine WL.op (d := 32) (.slice Ao ((fewU l i).length) co) (k := ?_)
      refine WL.op (d := 2) (.slice Ao ((fewU l i).length) co) (k := ?_)
      refine WL.nil ?_
      refine WX.seqN ?_
      refine WC.ret ?_
      refine WX.ret (rs := [.tmp 2]) [.slice Ao ((fewU l i).length) co] (.slice Ao ((fewU l i).length) co) ⟨(by kernel_rfl), trivial⟩ (k := ?_)
      have e_ : fewU l i = fewL l := few_end i0 i6 (by omega)
      rw [e_] at hb2 ⊢
      exact ⟨_, _, rfl, hb2, K, ol3⟩
  · have ph4 := of_decide_eq_false h4
    refine WL.rw (t := 10) (v := .bool false) (congrArg Value.bool h4) (k := ?_)
    refine WL.skip (d := 11) (k := ?_)
    refine WL.skip (d := 12) (k := ?_)
    refine WL.op (d := 13) (.bool false) (k := ?_)
    refine WL.nil ?_
    refine WX.seqN ?_
    refine WC.condF (k := ?_)
    refine WC.exit ?_
    refine WX.seqE ?_
    refine WX.seqE ?_
    refine WX.blockE ?_
    refine WX.seqN ?_
    refine WC.seq ?_
    refine WC.region ?_
    refine WL.op (d := 32) (.slice Ao ((fewU l i).length) co) (k := ?_)
    refine WL.op (d := 2) (.slice Ao ((fewU l i).length) co) (k := ?_)
    refine WL.nil ?_
    refine WX.seqN ?_
    refine WC.ret ?_
    refine WX.ret (rs := [.tmp 2]) [.slice Ao ((fewU l i).length) co] (.slice Ao ((fewU l i).length) co) ⟨(by kernel_rfl), trivial⟩ (k := ?_)
    have e_ : fewU l i = fewL l := few_end i0 i6 (by omega)
    rw [e_] at hb2 ⊢
    exact ⟨_, _, rfl, hb2, K, ol3⟩

set_option maxRecDepth 100000 in
set_option maxHeartbeats 4000000 in
theorem l23good_c {L : Option Addr} {lc : Nat} {l : List GCmd} {w : World} (hL : SlAt cmdC 15 32 L l w) (hF : Fts 9223372036854775807 l w) (hl : l.length ≤ 9223372036854775807) : Calls Try.prog 15 #[.slice L l.length lc] w fun e w' => ∃ A c, e = .returned (.slice A (goodL l).length c) ∧ OwAt cmdC 15 32 A c (goodL l) w' ∧ Adds w w' ∧ (∀ i, blk A = some i → w.heap.size ≤ i) := by
  have K : Keeps (fun _ => False) w w := Keeps.refl _ w
  have hFf := fts_few hF
  have hFg := fts_good hF
  refine Calls.start Try.func15 rfl (by kernel_rfl) ?_
  refine WC.seq ?_
  refine WC.region ?_
  refine WL.op (d := 2) (.slice none 0 0) (k := ?_)
  refine WL.nil ?_
  refine WX.seqN ?_
  refine WC.seq ?_
  refine WC.region ?_
  refine WL.op (d := 3) (.slice none 0 0) (k := ?_)
  refine WL.nil ?_
  refine WX.seqN ?_
  refine WC.seq ?_
  refine WC.region ?_
  refine WL.op (d := 7) (.slice L l.length lc) (k := ?_)
  refine WL.callG (d := 8) (f := 8) (args := #[.slice L l.length lc]) (l23few_c (lc := lc) (hL.adds K) (hF.adds K) hl) (k := fun e_ w1 h_ => ?_)
  obtain ⟨A2, c3, rfl, ho4, k5, ol6⟩ := h_
  refine ⟨_, rfl, ?_⟩
  have ol7 := fun i h => Nat.le_trans K.size (ol6 i h)
  replace K := K.trans (k5.any _)
  clear ol6
  have fl8 := fewL_len l
  refine WL.op (d := 4) (.slice A2 ((fewL l).length) c3) (k := ?_)
  refine WL.nil ?_
  refine WX.seqN ?_
  refine WC.seq ?_
  refine WC.seq ?_
  have K0 := K
  replace hL := hL.adds K
  have hs9 := ho4.sl ekCmd
  replace hF := hF.adds K
  replace hFf := hFf.adds K
  replace hFg := hFg.adds K
  replace K := Keeps.refl (fun _ => False) w1
  refine WC.region ?_
  refine WL.op (d := 5) (.int .i64 0) (k := ?_)
  refine WL.nil ?_
  refine WX.seqN ?_
  refine WC.block ?_
  refine WC.loop (ι := Int × (Option Addr) × Nat) (fun (⟨i, Ao, co⟩ : Int × (Option Addr) × Nat) => [(0, .slice L l.length lc), (2, .slice none 0 0), (7, .slice L l.length lc), (8, .slice A2 ((fewL l).length) c3), (4, .slice A2 ((fewL l).length) c3), (5, .int .i64 i), (3, .slice Ao ((goodU l i).length) co)]) (fun (⟨i, Ao, co⟩ : Int × (Option Addr) × Nat) (w_ : World) => (Keeps (fun _ => False) w1 w_) ∧ (OwAt cmdC 15 32 Ao co (goodU l i) w_) ∧ (∀ i, blk Ao = some i → w1.heap.size ≤ i) ∧ (0 ≤ i) ∧ (i ≤ (fewL l).length)) (fun (⟨i, Ao, co⟩ : Int × (Option Addr) × Nat) => ((fewL l).length - i).toNat) (0, none, 0) ⟨(by kernel_rfl), (by kernel_rfl), (by kernel_rfl), (by kernel_rfl), (by kernel_rfl), (by kernel_rfl), (by kernel_rfl), trivial⟩ ⟨K, OwAt.nil, (by simp [blk]), Int.le_refl 0, (by omega)⟩ ?_
  rintro ⟨i, Ao, co⟩ w10 ⟨K, hb11, ol12, i0, i1⟩
  have lm_ := goodU_len l i
  refine WC.seq ?_
  refine WC.seq ?_
  refine WC.region ?_
  refine WL.op (d := 9) (.int .i64 i) (k := ?_)
  refine WL.op (d := 10) (.slice A2 ((fewL l).length) c3) (k := ?_)
  refine WL.op (d := 11) (.int .i64 ((fewL l).length : Int)) (k := ?_)
  refine WL.op (d := 12) (.bool (decide (i < ((fewL l).length : Int)))) (k := ?_)
  refine WL.nil ?_
  refine WX.seqN ?_
  refine WC.cond (b := decide (i < ((fewL l).length : Int))) (ht := fun h13 => ?_) (hf := fun h13 => ?_)
  · have ph13 := of_decide_eq_true h13
    refine WC.skip ?_
    refine WX.seqN ?_
    refine WC.seq ?_
    refine WC.block ?_
    refine WC.seq ?_
    refine WC.region ?_
    refine WL.op (d := 15) (.slice A2 ((fewL l).length) c3) (k := ?_)
    refine WL.op (d := 16) (.int .i64 i) (k := ?_)
    obtain ⟨b14, o15, r16, hr17, hA18, he19⟩ := SlAt.at hs9 (i := i) (by omega) (by omega)
    refine WL.rw (t := 15) (v := .slice (some ⟨b14, o15, none⟩) ((fewL l).length) c3) (congrArg (fun a => Value.slice a ((fewL l).length) c3) hA18) (k := ?_)
    obtain ⟨hs20, hc21, hl22⟩ := fts_mem hFf hr17
    refine WL.idx (T := 22) (E := 32) (m := 15) (b := b14) (o := o15) (len := (fewL l).length) (cap := c3) (i := i) (kk := .i64) (d := 17) (by omega) (by omega) (k := ?_)
    refine WL.rw (t := 15) (v := .slice A2 ((fewL l).length) c3) (congrArg (fun a => Value.slice a ((fewL l).length) c3) (Eq.symm hA18)) (k := ?_)
    refine WL.load (v := GCmd.val r16) ((he19.adds K).ldW (T := 32)) (k := ?_)
    refine WL.callG (d := 19) (f := 10) (args := #[GCmd.val r16]) (u23Check_c (c := r16) (hs20.adds K) (by first | omega | simp)) (k := fun e_ w23 h_ => ⟨.bool (cokB r16.p), h_.1, ?_⟩)
    have k24 := h_.2; clear h_
    replace hb11 := hb11.adds k24
    replace K := K.trans (k24.any _)
    refine WL.op (d := 6) (.bool (cokB r16.p)) (k := ?_)
    refine WL.nil ?_
    refine WX.seqN ?_
    refine WC.seq ?_
    refine WC.region ?_
    refine WL.op (d := 20) (.bool (cokB r16.p)) (k := ?_)
    refine WL.nil ?_
    refine WX.seqN ?_
    refine WC.cond (b := cokB r16.p) (ht := fun h25 => ?_) (hf := fun h25 => ?_)
    · have ph25 := cok_t h25
      refine WC.region ?_
      refine WL.op (d := 21) (.slice Ao ((goodU l i).length) co) (k := ?_)
      refine WL.op (d := 22) (.slice A2 ((fewL l).length) c3) (k := ?_)
      refine WL.op (d := 23) (.int .i64 i) (k := ?_)
      obtain ⟨b26, o27, r28, hr29, hA30, he31⟩ := SlAt.at hs9 (i := i) (by omega) (by omega)
      refine WL.rw (t := 22) (v := .slice (some ⟨b26, o27, none⟩) ((fewL l).length) c3) (congrArg (fun a => Value.slice a ((fewL l).length) c3) hA30) (k := ?_)
      obtain ⟨hs32, hc33, hl34⟩ := fts_mem hFf hr29
      refine WL.idx (T := 22) (E := 32) (m := 15) (b := b26) (o := o27) (len := (fewL l).length) (cap := c3) (i := i) (kk := .i64) (d := 24) (by omega) (by omega) (k := ?_)
      refine WL.rw (t := 22) (v := .slice A2 ((fewL l).length) c3) (congrArg (fun a => Value.slice a ((fewL l).length) c3) (Eq.symm hA30)) (k := ?_)
      refine WL.load (v := GCmd.val r28) ((he31.adds K).ldW (T := 32)) (k := ?_)
      refine WL.newF (d := 26) (T := 32) (Value.cells (GCmd.val r28)) (fun b => .slice (some ⟨b, 0, none⟩) 1 1) (k := fun b35 w36 g37 hb38 k39 => ?_)
      have z40 := Nat.le_trans K.size g37
      have n41 := OwAt.off_new hb11 g37
      replace hb11 := hb11.adds k39
      replace K := K.trans (k39.any _)
      refine WL.append (d := 27) (T := 22) (cl := cmdC) (xs := goodU l i) (ys := [r28]) (c := 1) ekCmd hb11 (SlAt.of_lit (ys := [r28]) ekCmd hb38 (by kernel_rfl)) (by simp; omega) (k := fun A42 c43 w44 ho45 k46 n47 => ?_)
      have ol48 := olink_step ol12 K n47
      replace K := K.trans' k46 (fun i hi e => absurd hi (Nat.not_lt.2 (ol12 i e)))
      clear hb11
      refine WL.op (d := 3) (.slice A42 ((goodU l i ++ [r28]).length) c43) (k := ?_)
      refine WL.nil ?_
      refine WX.blockN ?_
      refine WX.seqN ?_
      refine WC.region ?_
      refine WL.op (d := 13) (.int .i64 i) (k := ?_)
      refine WL.opE (d := 14) (.int .i64 (IntKind.i64.wrap (i + 1))) (v := .int .i64 (i + 1)) (congrArg (Value.int .i64) (IntWalk.i64_in _ (by omega))) (k := ?_)
      refine WL.op (d := 5) (.int .i64 (i + 1)) (k := ?_)
      refine WL.nil ?_
      have e49 : goodU l i ++ [r28] = goodU l (i + 1) := good_s1 i0 hr29 ((el_eq (fun c : GCmd => cokB c.p) hr29 hr17).trans h25)
      rw [e49] at ho45
      refine WX.rw (t := 3) (v := .slice A42 ((goodU l (i + 1)).length) c43) (congrArg (fun l => Value.slice A42 (List.length l) c43) e49) (k := ?_)
      refine WX.round (i + 1, A42, c43) (by show ((fewL l).length - (i + 1)).toNat < ((fewL l).length - i).toNat; omega) ⟨(by kernel_rfl), (by kernel_rfl), (by kernel_rfl), (by kernel_rfl), (by kernel_rfl), (by kernel_rfl), (by kernel_rfl), trivial⟩ ⟨K, ho45, ol48, (by omega), (by omega)⟩
    · have ph25 := cok_f h25
      refine WC.skip ?_
      refine WX.blockN ?_
      refine WX.seqN ?_
      refine WC.region ?_
      refine WL.op (d := 13) (.int .i64 i) (k := ?_)
      refine WL.opE (d := 14) (.int .i64 (IntKind.i64.wrap (i + 1))) (v := .int .i64 (i + 1)) (congrArg (Value.int .i64) (IntWalk.i64_in _ (by omega))) (k := ?_)
      refine WL.op (d := 5) (.int .i64 (i + 1)) (k := ?_)
      refine WL.nil ?_
      have e50 : goodU l i = goodU l (i + 1) := good_s2 i0 hr17 h25
      rw [e50] at hb11
      refine WX.rw (t := 3) (v := .slice Ao ((goodU l (i + 1)).length) co) (congrArg (fun l => Value.slice Ao (List.length l) co) e50) (k := ?_)
      refine WX.round (i + 1, Ao, co) (by show ((fewL l).length - (i + 1)).toNat < ((fewL l).length - i).toNat; omega) ⟨(by kernel_rfl), (by kernel_rfl), (by kernel_rfl), (by kernel_rfl), (by kernel_rfl), (by kernel_rfl), (by kernel_rfl), trivial⟩ ⟨K, hb11, ol12, (by omega), (by omega)⟩
  · have ph13 := of_decide_eq_false h13
    refine WC.exit ?_
    refine WX.seqE ?_
    refine WX.seqE ?_
    refine WX.blockE ?_
    refine WX.seqN ?_
    refine WC.seq ?_
    refine WC.region ?_
    refine WL.op (d := 28) (.slice Ao ((goodU l i).length) co) (k := ?_)
    refine WL.op (d := 2) (.slice Ao ((goodU l i).length) co) (k := ?_)
    refine WL.nil ?_
    refine WX.seqN ?_
    refine WC.ret ?_
    refine WX.ret (rs := [.tmp 2]) [.slice Ao ((goodU l i).length) co] (.slice Ao ((goodU l i).length) co) ⟨(by kernel_rfl), trivial⟩ (k := ?_)
    have e_ : goodU l i = goodL l := good_end (by omega)
    rw [e_] at hb11 ⊢
    exact ⟨_, _, rfl, hb11, K0.trans K, fun i h => Nat.le_trans K0.size (ol12 i h)⟩

set_option maxRecDepth 100000 in
theorem l23short_c (l : List UInt8) (n : Nat) (hn : n ≤ 1000000) (hl : l.length ≤ 9223372036854775807) (w : World) : Calls Try.prog 16 #[.string ⟨l.toArray⟩, .int .i64 (n : Int)] w fun e w' => ∃ l' : List UInt8, l'.length ≤ n ∧ e = .returned (.string ⟨l'.toArray⟩) ∧ Adds w w' := by
  have K : Keeps (fun _ => False) w w := Keeps.refl _ w
  refine Calls.start Try.func16 rfl (by kernel_rfl) ?_
  refine WC.seq ?_
  refine WC.region ?_
  refine WL.op (d := 4) (.string ⟨#[]⟩) (k := ?_)
  refine WL.nil ?_
  refine WX.seqN ?_
  refine WC.seq ?_
  refine WC.seq ?_
  refine WC.region ?_
  refine WL.op (d := 5) (.string ⟨(l).toArray⟩) (k := ?_)
  refine WL.op (d := 6) (.int .i64 (l.length : Int)) (k := ?_)
  refine WL.op (d := 7) (.int .i64 (n : Int)) (k := ?_)
  refine WL.op (d := 8) (.bool (decide ((l.length : Int) > (n : Int)))) (k := ?_)
  refine WL.nil ?_
  refine WX.seqN ?_
  refine WC.cond (b := decide ((l.length : Int) > (n : Int))) (ht := fun h1 => ?_) (hf := fun h1 => ?_)
  · have ph1 := of_decide_eq_true h1
    refine WC.seq ?_
    refine WC.region ?_
    refine WL.op (d := 9) (.string ⟨(l).toArray⟩) (k := ?_)
    refine WL.op (d := 10) (.int .i64 (n : Int)) (k := ?_)
    refine WL.cut (d := 11) (vx := .string ⟨(l).toArray⟩) (lo' := none) (hi' := (some (.int .i64 (n : Int)))) (mx' := none) (v := .string ⟨(List.take n l).toArray⟩) (run_cut (P := Try.prog) (w := w) (lo := none) (hi := (some (.int .i64 (n : Int)))) (T := 9) (a := 0) (b := n) (l := l) (by kernel_rfl) (.inl ⟨rfl, rfl⟩) (.inr ⟨_, _, rfl, by omega⟩) (by first | omega | (simp; omega)) (by first | omega | (simp; omega))) (k := ?_)
    refine WL.op (d := 4) (.string ⟨(List.take n l).toArray⟩) (k := ?_)
    refine WL.nil ?_
    refine WX.seqN ?_
    refine WC.ret ?_
    refine WX.seqR ?_
    refine WX.ret (rs := [.tmp 4]) [.string ⟨(List.take n l).toArray⟩] (.string ⟨(List.take n l).toArray⟩) ⟨(by kernel_rfl), trivial⟩ (k := ?_)
    exact ⟨_, (by simp; omega), rfl, K⟩
  · have ph1 := of_decide_eq_false h1
    refine WC.skip ?_
    refine WX.seqN ?_
    refine WC.seq ?_
    refine WC.region ?_
    refine WL.op (d := 12) (.string ⟨(l).toArray⟩) (k := ?_)
    refine WL.op (d := 4) (.string ⟨(l).toArray⟩) (k := ?_)
    refine WL.nil ?_
    refine WX.seqN ?_
    refine WC.ret ?_
    refine WX.ret (rs := [.tmp 4]) [.string ⟨(l).toArray⟩] (.string ⟨(l).toArray⟩) ⟨(by kernel_rfl), trivial⟩ (k := ?_)
    exact ⟨_, (by omega), rfl, K⟩

set_option maxRecDepth 100000 in
set_option maxHeartbeats 4000000 in
theorem scriptWrites_any {L : Option Addr} {lc : Nat} {l : List GCmd} {w : World} (hL : SlAt cmdC 15 32 L l w) (hF : Fts 9223372036854775807 l w) (hl : l.length ≤ 9223372036854775807) : Calls Try.prog 3 #[.slice L l.length lc] w fun e w' => e = .returned (.bool true) ∧ Adds w w' := by
  have K : Keeps (fun _ => False) w w := Keeps.refl _ w
  have hFf := fts_few hF
  have hFg := fts_good hF
  refine Calls.start Try.func3 rfl (by kernel_rfl) ?_
  refine WC.seq ?_
  refine WC.region ?_
  refine WL.op (d := 2) (.bool false) (k := ?_)
  refine WL.nil ?_
  refine WX.seqN ?_
  refine WC.seq ?_
  refine WC.region ?_
  refine WL.callG (d := 6) (f := 7) (args := #[]) (l23awake_c w) (k := fun e_ w1 h_ => ⟨.bool true, h_.1, ?_⟩)
  have k2 := h_.2; clear h_
  replace K := K.trans (k2.any _)
  refine WL.op (d := 3) (.bool true) (k := ?_)
  refine WL.nil ?_
  refine WX.seqN ?_
  refine WC.seq ?_
  refine WC.region ?_
  refine WL.op (d := 7) (.slice L l.length lc) (k := ?_)
  refine WL.callG (d := 8) (f := 8) (args := #[.slice L l.length lc]) (l23few_c (lc := lc) (hL.adds K) (hF.adds K) hl) (k := fun e_ w3 h_ => ?_)
  obtain ⟨A4, c5, rfl, ho6, k7, ol8⟩ := h_
  refine ⟨_, rfl, ?_⟩
  have ol9 := fun i h => Nat.le_trans K.size (ol8 i h)
  replace K := K.trans (k7.any _)
  clear ol8
  have fl10 := fewL_len l
  refine WL.op (d := 4) (.slice A4 ((fewL l).length) c5) (k := ?_)
  refine WL.nil ?_
  refine WX.seqN ?_
  refine WC.seq ?_
  refine WC.seq ?_
  refine WC.region ?_
  refine WL.op (d := 5) (.int .i64 0) (k := ?_)
  refine WL.nil ?_
  refine WX.seqN ?_
  refine WC.block ?_
  refine WC.loop (ι := Int) (fun (i : Int) => [(0, .slice L l.length lc), (6, .bool true), (3, .bool true), (7, .slice L l.length lc), (8, .slice A4 ((fewL l).length) c5), (4, .slice A4 ((fewL l).length) c5), (5, .int .i64 i)]) (fun (i : Int) (w_ : World) => (Keeps (fun _ => False) w w_) ∧ (OwAt cmdC 15 32 A4 c5 (fewL l) w_) ∧ (∀ i, blk A4 = some i → w.heap.size ≤ i) ∧ (0 ≤ i) ∧ (i ≤ (fewL l).length)) (fun (i : Int) => ((fewL l).length - i).toNat) 0 ⟨(by kernel_rfl), (by kernel_rfl), (by kernel_rfl), (by kernel_rfl), (by kernel_rfl), (by kernel_rfl), (by kernel_rfl), trivial⟩ ⟨K, ho6, ol9, Int.le_refl 0, (by omega)⟩ ?_
  rintro i w11 ⟨K, hb12, ol13, i0, i1⟩
  refine WC.seq ?_
  refine WC.seq ?_
  refine WC.region ?_
  refine WL.op (d := 9) (.int .i64 i) (k := ?_)
  refine WL.op (d := 10) (.slice A4 ((fewL l).length) c5) (k := ?_)
  refine WL.op (d := 11) (.int .i64 ((fewL l).length : Int)) (k := ?_)
  refine WL.op (d := 12) (.bool (decide (i < ((fewL l).length : Int)))) (k := ?_)
  refine WL.nil ?_
  refine WX.seqN ?_
  refine WC.cond (b := decide (i < ((fewL l).length : Int))) (ht := fun h14 => ?_) (hf := fun h14 => ?_)
  · have ph14 := of_decide_eq_true h14
    refine WC.skip ?_
    refine WX.seqN ?_
    refine WC.seq ?_
    refine WC.block ?_
    refine WC.seq ?_
    refine WC.quiet (k := ?_)
    refine WQ.op (d := 15) (.slice A4 ((fewL l).length) c5) (k := ?_)
    refine WQ.op (d := 16) (.int .i64 i) (k := ?_)
    obtain ⟨b15, o16, r17, hr18, hA19, he20⟩ := SlAt.at (hb12.sl ekCmd) (i := i) (by omega) (by omega)
    refine WQ.rw (t := 15) (v := .slice (some ⟨b15, o16, none⟩) ((fewL l).length) c5) (congrArg (fun a => Value.slice a ((fewL l).length) c5) hA19) (k := ?_)
    obtain ⟨hs21, hc22, hl23⟩ := fts_mem hFf hr18
    refine WQ.idx (T := 22) (E := 32) (m := 15) (b := b15) (o := o16) (len := (fewL l).length) (cap := c5) (i := i) (kk := .i64) (d := 17) (by omega) (by omega) (k := ?_)
    refine WQ.rw (t := 15) (v := .slice A4 ((fewL l).length) c5) (congrArg (fun a => Value.slice a ((fewL l).length) c5) (Eq.symm hA19)) (k := ?_)
    refine WQ.load (v := GCmd.val r17) (fun w_ k_ => (he20.adds k_).ldW (T := 32)) (k := ?_)
    refine WQ.callG (d := 19) (f := 9) (args := #[GCmd.val r17]) (v := .bool (cokB r17.p)) (fun w_ k_ => sCheck_c (c := r17) ((hs21.adds K).adds k_) (by first | omega | simp)) addsR (k := ?_)
    refine WQ.op (d := 20) (.slice A4 ((fewL l).length) c5) (k := ?_)
    refine WQ.op (d := 21) (.int .i64 i) (k := ?_)
    obtain ⟨b24, o25, r26, hr27, hA28, he29⟩ := SlAt.at (hb12.sl ekCmd) (i := i) (by omega) (by omega)
    refine WQ.rw (t := 20) (v := .slice (some ⟨b24, o25, none⟩) ((fewL l).length) c5) (congrArg (fun a => Value.slice a ((fewL l).length) c5) hA28) (k := ?_)
    obtain ⟨hs30, hc31, hl32⟩ := fts_mem hFf hr27
    refine WQ.idx (T := 22) (E := 32) (m := 15) (b := b24) (o := o25) (len := (fewL l).length) (cap := c5) (i := i) (kk := .i64) (d := 22) (by omega) (by omega) (k := ?_)
    refine WQ.rw (t := 20) (v := .slice A4 ((fewL l).length) c5) (congrArg (fun a => Value.slice a ((fewL l).length) c5) (Eq.symm hA28)) (k := ?_)
    refine WQ.load (v := GCmd.val r26) (fun w_ k_ => (he29.adds k_).ldW (T := 32)) (k := ?_)
    refine WQ.callG (d := 24) (f := 10) (args := #[GCmd.val r26]) (v := .bool (cokB r26.p)) (fun w_ k_ => u23Check_c (c := r26) ((hs30.adds K).adds k_) (by first | omega | simp)) addsR (k := ?_)
    refine WQ.opE (d := 25) (.bool (!((cokB r17.p) == (cokB r26.p)))) (v := .bool false) (congrArg Value.bool (neq_same (el_eq (fun c : GCmd => cokB c.p) hr18 hr27))) (k := ?_)
    refine WQ.op (d := 26) (.bool false) (k := ?_)
    refine WQ.op (d := 27) (.slice A4 ((fewL l).length) c5) (k := ?_)
    refine WQ.op (d := 28) (.int .i64 i) (k := ?_)
    obtain ⟨b33, o34, r35, hr36, hA37, he38⟩ := SlAt.at (hb12.sl ekCmd) (i := i) (by omega) (by omega)
    refine WQ.rw (t := 27) (v := .slice (some ⟨b33, o34, none⟩) ((fewL l).length) c5) (congrArg (fun a => Value.slice a ((fewL l).length) c5) hA37) (k := ?_)
    obtain ⟨hs39, hc40, hl41⟩ := fts_mem hFf hr36
    refine WQ.idx (T := 22) (E := 32) (m := 15) (b := b33) (o := o34) (len := (fewL l).length) (cap := c5) (i := i) (kk := .i64) (d := 29) (by omega) (by omega) (k := ?_)
    refine WQ.rw (t := 27) (v := .slice A4 ((fewL l).length) c5) (congrArg (fun a => Value.slice a ((fewL l).length) c5) (Eq.symm hA37)) (k := ?_)
    refine WQ.load (v := GCmd.val r35) (fun w_ k_ => (he38.adds k_).ldW (T := 32)) (k := ?_)
    refine WQ.op (d := 31) (.slice A4 ((fewL l).length) c5) (k := ?_)
    obtain ⟨b42, o43, r44, hr45, hA46, he47⟩ := SlAt.at (hb12.sl ekCmd) (i := 0) (by omega) (by omega)
    refine WQ.rw (t := 31) (v := .slice (some ⟨b42, o43, none⟩) ((fewL l).length) c5) (congrArg (fun a => Value.slice a ((fewL l).length) c5) hA46) (k := ?_)
    obtain ⟨hs48, hc49, hl50⟩ := fts_mem hFf hr45
    refine WQ.idx (T := 22) (E := 32) (m := 15) (b := b42) (o := o43) (len := (fewL l).length) (cap := c5) (i := 0) (kk := .i64) (d := 32) (by omega) (by omega) (k := ?_)
    refine WQ.rw (t := 31) (v := .slice A4 ((fewL l).length) c5) (congrArg (fun a => Value.slice a ((fewL l).length) c5) (Eq.symm hA46)) (k := ?_)
    refine WQ.load (v := GCmd.val r44) (fun w_ k_ => (he47.adds k_).ldW (T := 32)) (k := ?_)
    refine WQ.callG (d := 34) (f := 11) (args := #[GCmd.val r35, GCmd.val r44]) (v := .bool (decide (r35.p = r44.p))) (fun w_ k_ => sSame_c (x := r35) (y := r44) ((hs39.adds K).adds k_) ((hs48.adds K).adds k_) (by omega) (by omega)) addsR (k := ?_)
    refine WQ.op (d := 35) (.slice A4 ((fewL l).length) c5) (k := ?_)
    refine WQ.op (d := 36) (.int .i64 i) (k := ?_)
    obtain ⟨b51, o52, r53, hr54, hA55, he56⟩ := SlAt.at (hb12.sl ekCmd) (i := i) (by omega) (by omega)
    refine WQ.rw (t := 35) (v := .slice (some ⟨b51, o52, none⟩) ((fewL l).length) c5) (congrArg (fun a => Value.slice a ((fewL l).length) c5) hA55) (k := ?_)
    obtain ⟨hs57, hc58, hl59⟩ := fts_mem hFf hr54
    refine WQ.idx (T := 22) (E := 32) (m := 15) (b := b51) (o := o52) (len := (fewL l).length) (cap := c5) (i := i) (kk := .i64) (d := 37) (by omega) (by omega) (k := ?_)
    refine WQ.rw (t := 35) (v := .slice A4 ((fewL l).length) c5) (congrArg (fun a => Value.slice a ((fewL l).length) c5) (Eq.symm hA55)) (k := ?_)
    refine WQ.load (v := GCmd.val r53) (fun w_ k_ => (he56.adds k_).ldW (T := 32)) (k := ?_)
    refine WQ.op (d := 39) (.slice A4 ((fewL l).length) c5) (k := ?_)
    obtain ⟨b60, o61, r62, hr63, hA64, he65⟩ := SlAt.at (hb12.sl ekCmd) (i := 0) (by omega) (by omega)
    refine WQ.rw (t := 39) (v := .slice (some ⟨b60, o61, none⟩) ((fewL l).length) c5) (congrArg (fun a => Value.slice a ((fewL l).length) c5) hA64) (k := ?_)
    obtain ⟨hs66, hc67, hl68⟩ := fts_mem hFf hr63
    refine WQ.idx (T := 22) (E := 32) (m := 15) (b := b60) (o := o61) (len := (fewL l).length) (cap := c5) (i := 0) (kk := .i64) (d := 40) (by omega) (by omega) (k := ?_)
    refine WQ.rw (t := 39) (v := .slice A4 ((fewL l).length) c5) (congrArg (fun a => Value.slice a ((fewL l).length) c5) (Eq.symm hA64)) (k := ?_)
    refine WQ.load (v := GCmd.val r62) (fun w_ k_ => (he65.adds k_).ldW (T := 32)) (k := ?_)
    refine WQ.callG (d := 42) (f := 12) (args := #[GCmd.val r53, GCmd.val r62]) (v := .bool (decide (r53.p = r62.p))) (fun w_ k_ => u23Same_c (x := r53) (y := r62) ((hs57.adds K).adds k_) ((hs66.adds K).adds k_) (by omega) (by omega)) addsR (k := ?_)
    refine WQ.opE (d := 43) (.bool (!((decide (r35.p = r44.p)) == (decide (r53.p = r62.p))))) (v := .bool false) (congrArg Value.bool (neq_same (el_eq2 (fun c d : GCmd => decide (c.p = d.p)) hr36 hr54 hr45 hr63))) (k := ?_)
    refine WQ.op (d := 44) (.bool false) (k := ?_)
    refine WQ.nilX (fun w69 k70 => ?_)
    replace hb12 := hb12.adds k70
    replace he20 := he20.adds k70
    replace he29 := he29.adds k70
    replace he38 := he38.adds k70
    replace he47 := he47.adds k70
    replace he56 := he56.adds k70
    replace he65 := he65.adds k70
    replace K := K.trans (k70.any _)
    refine WX.seqN ?_
    refine WC.condF (k := ?_)
    refine WC.skip ?_
    refine WX.blockN ?_
    refine WX.seqN ?_
    refine WC.region ?_
    refine WL.op (d := 13) (.int .i64 i) (k := ?_)
    refine WL.opE (d := 14) (.int .i64 (IntKind.i64.wrap (i + 1))) (v := .int .i64 (i + 1)) (congrArg (Value.int .i64) (IntWalk.i64_in _ (by omega))) (k := ?_)
    refine WL.op (d := 5) (.int .i64 (i + 1)) (k := ?_)
    refine WL.nil ?_
    refine WX.round (i + 1) (by show ((fewL l).length - (i + 1)).toNat < ((fewL l).length - i).toNat; omega) ⟨(by kernel_rfl), (by kernel_rfl), (by kernel_rfl), (by kernel_rfl), (by kernel_rfl), (by kernel_rfl), (by kernel_rfl), trivial⟩ ⟨K, hb12, ol13, (by omega), (by omega)⟩
  · have ph14 := of_decide_eq_false h14
    refine WC.exit ?_
    refine WX.seqE ?_
    refine WX.seqE ?_
    refine WX.blockE ?_
    refine WX.seqN ?_
    refine WC.seq ?_
    refine WC.region ?_
    refine WL.op (d := 45) (.bool true) (k := ?_)
    refine WL.op (d := 46) (.bool true) (k := ?_)
    refine WL.op (d := 47) (.slice A4 ((fewL l).length) c5) (k := ?_)
    refine WL.callG (d := 48) (f := 13) (args := #[.slice A4 ((fewL l).length) c5]) (sBytes_c (cp := c5) (hb12.sl ekCmd) (Fts.le (hFf.adds K) (by omega)) (by omega)) (k := fun e_ w71 h_ => ⟨.string ⟨(bytesC (List.map GCmd.p (fewL l))).toArray⟩, h_.1, ?_⟩)
    have k72 := h_.2; clear h_
    replace hb12 := hb12.adds k72
    replace K := K.trans (k72.any _)
    refine WL.op (d := 49) (.slice A4 ((fewL l).length) c5) (k := ?_)
    refine WL.callG (d := 50) (f := 14) (args := #[.slice A4 ((fewL l).length) c5]) (u23Bytes_c (cp := c5) (hb12.sl ekCmd) (Fts.le (hFf.adds K) (by omega)) (by omega)) (k := fun e_ w73 h_ => ⟨.string ⟨(bytesC (List.map GCmd.p (fewL l))).toArray⟩, h_.1, ?_⟩)
    have k74 := h_.2; clear h_
    replace hb12 := hb12.adds k74
    replace K := K.trans (k74.any _)
    refine WL.opE (d := 51) (.bool (ByteArray.toList ⟨(bytesC (List.map GCmd.p (fewL l))).toArray⟩ == ByteArray.toList ⟨(bytesC (List.map GCmd.p (fewL l))).toArray⟩)) (v := .bool true) (str_eqs _) (k := ?_)
    refine WL.op (d := 52) (.bool true) (k := ?_)
    refine WL.op (d := 53) (.bool true) (k := ?_)
    refine WL.op (d := 54) (.slice L l.length lc) (k := ?_)
    refine WL.callG (d := 55) (f := 15) (args := #[.slice L l.length lc]) (l23good_c (lc := lc) (hL.adds K) (hF.adds K) hl) (k := fun e_ w75 h_ => ?_)
    obtain ⟨A76, c77, rfl, ho78, k79, ol80⟩ := h_
    refine ⟨_, rfl, ?_⟩
    have ol81 := fun i h => Nat.le_trans K.size (ol80 i h)
    replace hb12 := hb12.adds k79
    replace K := K.trans (k79.any _)
    clear ol80
    have fl82 := goodL_len l
    refine WL.callG (d := 56) (f := 13) (args := #[.slice A76 ((goodL l).length) c77]) (sBytes_c (cp := c77) (ho78.sl ekCmd) (Fts.le (hFg.adds K) (by omega)) (by omega)) (k := fun e_ w83 h_ => ⟨.string ⟨(bytesC (List.map GCmd.p (goodL l))).toArray⟩, h_.1, ?_⟩)
    have k84 := h_.2; clear h_
    replace hb12 := hb12.adds k84
    replace ho78 := ho78.adds k84
    replace K := K.trans (k84.any _)
    refine WL.op (d := 57) (.slice L l.length lc) (k := ?_)
    refine WL.callG (d := 58) (f := 15) (args := #[.slice L l.length lc]) (l23good_c (lc := lc) (hL.adds K) (hF.adds K) hl) (k := fun e_ w85 h_ => ?_)
    obtain ⟨A86, c87, rfl, ho88, k89, ol90⟩ := h_
    refine ⟨_, rfl, ?_⟩
    have ol91 := fun i h => Nat.le_trans K.size (ol90 i h)
    replace hb12 := hb12.adds k89
    replace ho78 := ho78.adds k89
    replace K := K.trans (k89.any _)
    clear ol90
    have fl92 := goodL_len l
    refine WL.callG (d := 59) (f := 14) (args := #[.slice A86 ((goodL l).length) c87]) (u23Bytes_c (cp := c87) (ho88.sl ekCmd) (Fts.le (hFg.adds K) (by omega)) (by omega)) (k := fun e_ w93 h_ => ⟨.string ⟨(bytesC (List.map GCmd.p (goodL l))).toArray⟩, h_.1, ?_⟩)
    have k94 := h_.2; clear h_
    replace hb12 := hb12.adds k94
    replace ho78 := ho78.adds k94
    replace ho88 := ho88.adds k94
    replace K := K.trans (k94.any _)
    refine WL.opE (d := 60) (.bool (ByteArray.toList ⟨(bytesC (List.map GCmd.p (goodL l))).toArray⟩ == ByteArray.toList ⟨(bytesC (List.map GCmd.p (goodL l))).toArray⟩)) (v := .bool true) (str_eqs _) (k := ?_)
    refine WL.op (d := 61) (.bool true) (k := ?_)
    refine WL.op (d := 2) (.bool true) (k := ?_)
    refine WL.nil ?_
    refine WX.seqN ?_
    refine WC.ret ?_
    refine WX.ret (rs := [.tmp 2]) [.bool true] (.bool true) ⟨(by kernel_rfl), trivial⟩ (k := ?_)
    exact ⟨rfl, K⟩

set_option maxRecDepth 100000 in
set_option maxHeartbeats 4000000 in
theorem scriptReads_any {L : Option Addr} {lc : Nat} {l : List GCmd} {w : World} (hL : SlAt cmdC 15 32 L l w) (hF : Fts 9223372036854775807 l w) (hl : l.length ≤ 9223372036854775807) (t : List UInt8) (ht : t.length ≤ 9223372036854775807) (q0 q1 q2 : Int) : Calls Try.prog 4 #[.slice L l.length lc, .string ⟨t.toArray⟩, .agg #[.int .i64 q0, .int .i64 q1, .int .i64 q2]] w fun e w' => e = .returned (.bool true) ∧ Adds w w' := by
  have K : Keeps (fun _ => False) w w := Keeps.refl _ w
  have hFf := fts_few hF
  have hFg := fts_good hF
  refine Calls.start Try.func4 rfl (by kernel_rfl) ?_
  refine WC.seq ?_
  refine WC.region ?_
  refine WL.new (d := 5) (T := 36) #[.int .i64 q0, .int .i64 q1, .int .i64 q2] (k := fun b1 w2 g3 hb4 k5 => ?_)
  have z6 := Nat.le_trans K.size g3
  replace K := K.trans (k5.any _)
  refine WL.op (d := 6) (.bool false) (k := ?_)
  refine WL.nil ?_
  refine WX.seqN ?_
  refine WC.seq ?_
  refine WC.region ?_
  refine WL.callG (d := 15) (f := 7) (args := #[]) (l23awake_c w2) (k := fun e_ w7 h_ => ⟨.bool true, h_.1, ?_⟩)
  have k8 := h_.2; clear h_
  replace hb4 := k8.heap hb4 id
  replace K := K.trans (k8.any _)
  refine WL.op (d := 7) (.bool true) (k := ?_)
  refine WL.nil ?_
  refine WX.seqN ?_
  refine WC.seq ?_
  refine WC.region ?_
  refine WL.op (d := 16) (.string ⟨(t).toArray⟩) (k := ?_)
  refine WL.callG (d := 17) (f := 16) (args := #[.string ⟨(t).toArray⟩, .int .i64 80]) (l23short_c t 80 (by omega) (by show List.length t ≤ _; first | omega | (simp; omega)) w7) (k := fun e_ w9 h_ => ?_)
  obtain ⟨l10, hl11, rfl, k12⟩ := h_
  refine ⟨_, rfl, ?_⟩
  replace hb4 := k12.heap hb4 id
  replace K := K.trans (k12.any _)
  refine WL.op (d := 1) (.string ⟨(l10).toArray⟩) (k := ?_)
  refine WL.nil ?_
  refine WX.seqN ?_
  refine WC.seq ?_
  refine WC.seq ?_
  refine WC.region ?_
  refine WL.op (d := 18) (.pointer (some ⟨b1, 0, none⟩)) (k := ?_)
  refine WL.load (v := .int .i64 q0) (ld1 (T := 3) (i := 0) hb4) (k := ?_)
  refine WL.bin (d := 20) (v := .int .i64 (bits BinOp.and IntKind.i64 q0 3)) (bits_run (by decide)) (k := ?_)
  refine WL.op (d := 21) (.bool ((bits BinOp.and IntKind.i64 q0 3) != 0)) (k := ?_)
  refine WL.nil ?_
  refine WX.seqN ?_
  refine WC.cond (b := (bits BinOp.and IntKind.i64 q0 3) != 0) (ht := fun h13 => ?_) (hf := fun h13 => ?_)
  · have ph13 := bne_iff_ne.1 h13
    refine WC.seq ?_
    have bl_ := bytesC_len (List.map GCmd.p (goodL l))
    have gl_ := goodL_len l
    rw [List.length_map] at bl_
    refine WC.region ?_
    refine WL.op (d := 22) (.slice L l.length lc) (k := ?_)
    refine WL.callG (d := 23) (f := 15) (args := #[.slice L l.length lc]) (l23good_c (lc := lc) (hL.adds K) (hF.adds K) hl) (k := fun e_ w14 h_ => ?_)
    obtain ⟨A15, c16, rfl, ho17, k18, ol19⟩ := h_
    refine ⟨_, rfl, ?_⟩
    have ol20 := fun i h => Nat.le_trans K.size (ol19 i h)
    replace hb4 := k18.heap hb4 id
    replace K := K.trans (k18.any _)
    clear ol19
    have fl21 := goodL_len l
    refine WL.callG (d := 24) (f := 14) (args := #[.slice A15 ((goodL l).length) c16]) (u23Bytes_c (cp := c16) (ho17.sl ekCmd) (Fts.le (hFg.adds K) (by omega)) (by omega)) (k := fun e_ w22 h_ => ⟨.string ⟨(bytesC (List.map GCmd.p (goodL l))).toArray⟩, h_.1, ?_⟩)
    have k23 := h_.2; clear h_
    replace hb4 := k23.heap hb4 id
    replace ho17 := ho17.adds k23
    replace K := K.trans (k23.any _)
    obtain ⟨b24, c25, w26, g27, hc28, hy29, k30⟩ := run_toBytesB (bytesC (List.map GCmd.p (goodL l))) w22
    refine WL.conv (d := 25) (vx := .string ⟨(bytesC (List.map GCmd.p (goodL l))).toArray⟩) (v := .slice (some ⟨b24, 0, none⟩) ((bytesC (List.map GCmd.p (goodL l))).length) c25) hc28 (k := ?_)
    clear hc28
    have z31 := Nat.le_trans K.size g27
    have n32 : b1 ≠ b24 := Nat.ne_of_lt (Nat.lt_of_lt_of_le (lt_of_heap hb4) g27)
    replace hb4 := k30.heap hb4 id
    replace ho17 := ho17.adds k30
    replace K := K.trans (k30.any _)
    refine WL.op (d := 8) (.slice (some ⟨b24, 0, none⟩) ((bytesC (List.map GCmd.p (goodL l))).length) c25) (k := ?_)
    refine WL.nil ?_
    refine WX.seqN ?_
    refine WC.seq ?_
    have bl_ := bytesC_len (List.map GCmd.p (goodL l))
    have gl_ := goodL_len l
    rw [List.length_map] at bl_
    refine WC.region ?_
    refine WL.op (d := 26) (.slice (some ⟨b24, 0, none⟩) ((bytesC (List.map GCmd.p (goodL l))).length) c25) (k := ?_)
    refine WL.op (d := 27) (.int .i64 ((bytesC (List.map GCmd.p (goodL l))).length : Int)) (k := ?_)
    refine WL.op (d := 28) (.bool (decide (((bytesC (List.map GCmd.p (goodL l))).length : Int) > 0))) (k := ?_)
    refine WL.nil ?_
    refine WX.seqN ?_
    refine WC.cond (b := decide (((bytesC (List.map GCmd.p (goodL l))).length : Int) > 0)) (ht := fun h33 => ?_) (hf := fun h33 => ?_)
    · have ph33 := of_decide_eq_true h33
      refine WC.seq ?_
      refine WC.region ?_
      refine WL.op (d := 29) (.pointer (some ⟨b1, 1, none⟩)) (k := ?_)
      refine WL.load (v := .int .i64 q1) (ld1 (T := 3) (i := 1) hb4) (k := ?_)
      refine WL.op (d := 31) (.slice (some ⟨b24, 0, none⟩) ((bytesC (List.map GCmd.p (goodL l))).length) c25) (k := ?_)
      refine WL.op (d := 32) (.int .i64 ((bytesC (List.map GCmd.p (goodL l))).length : Int)) (k := ?_)
      refine WL.bin (d := 33) (v := .int .i64 (Int.tmod q1 ((bytesC (List.map GCmd.p (goodL l))).length : Int))) (rem_run (by omega)) (k := ?_)
      have m34 := tmod_rng q1 ((bytesC (List.map GCmd.p (goodL l))).length : Int) (by omega)
      obtain ⟨r35, e36⟩ : ∃ r : Int, Int.tmod q1 ((bytesC (List.map GCmd.p (goodL l))).length : Int) = r := ⟨_, rfl⟩
      rw [e36] at m34
      refine WL.rw (t := 33) (v := .int .i64 r35) (congrArg (Value.int .i64) e36) (k := ?_)
      refine WL.op (d := 34) (.slice (some ⟨b24, 0, none⟩) ((bytesC (List.map GCmd.p (goodL l))).length) c25) (k := ?_)
      refine WL.op (d := 35) (.int .i64 ((bytesC (List.map GCmd.p (goodL l))).length : Int)) (k := ?_)
      refine WL.opE (d := 36) (.int .i64 (IntKind.i64.wrap (r35 + ((bytesC (List.map GCmd.p (goodL l))).length : Int)))) (v := .int .i64 (r35 + ((bytesC (List.map GCmd.p (goodL l))).length : Int))) (congrArg (Value.int .i64) (IntWalk.i64_in _ (by omega))) (k := ?_)
      refine WL.op (d := 37) (.slice (some ⟨b24, 0, none⟩) ((bytesC (List.map GCmd.p (goodL l))).length) c25) (k := ?_)
      refine WL.op (d := 38) (.int .i64 ((bytesC (List.map GCmd.p (goodL l))).length : Int)) (k := ?_)
      refine WL.bin (d := 39) (v := .int .i64 (Int.tmod (r35 + ((bytesC (List.map GCmd.p (goodL l))).length : Int)) ((bytesC (List.map GCmd.p (goodL l))).length : Int))) (rem_run (by omega)) (k := ?_)
      have m37 := tmod_rng (r35 + ((bytesC (List.map GCmd.p (goodL l))).length : Int)) ((bytesC (List.map GCmd.p (goodL l))).length : Int) (by omega)
      obtain ⟨r38, e39⟩ : ∃ r : Int, Int.tmod (r35 + ((bytesC (List.map GCmd.p (goodL l))).length : Int)) ((bytesC (List.map GCmd.p (goodL l))).length : Int) = r := ⟨_, rfl⟩
      rw [e39] at m37
      refine WL.rw (t := 39) (v := .int .i64 r38) (congrArg (Value.int .i64) e39) (k := ?_)
      refine WL.op (d := 9) (.int .i64 r38) (k := ?_)
      refine WL.nil ?_
      refine WX.seqN ?_
      refine WC.seq ?_
      refine WC.tail 11 (k := ?_)
      refine WQ.op (d := 40) (.slice (some ⟨b24, 0, none⟩) ((bytesC (List.map GCmd.p (goodL l))).length) c25) (k := ?_)
      refine WQ.op (d := 41) (.int .i64 r38) (k := ?_)
      refine WQ.op (d := 42) (.slice (some ⟨b24, 0, none⟩) ((bytesC (List.map GCmd.p (goodL l))).length) c25) (k := ?_)
      refine WQ.op (d := 43) (.int .i64 r38) (k := ?_)
      refine WQ.idx (T := 38) (E := 5) (m := 1) (b := b24) (o := 0) (len := (bytesC (List.map GCmd.p (goodL l))).length) (cap := c25) (i := r38) (kk := .i64) (d := 44) (by omega) (by omega) (k := ?_)
      refine WQ.load (v := .int .u8 (((bytesC (List.map GCmd.p (goodL l)))[0 + (r38).toNat * 1]'(by omega)).toNat : Int)) (fun w_ k_ => bytes_ld (i := 0 + (r38).toNat * 1) (hy29.keeps k_ id) (by omega)) (k := ?_)
      refine WQ.op (d := 46) (.pointer (some ⟨b1, 2, none⟩)) (k := ?_)
      refine WQ.load (v := .int .i64 q2) (fun w_ k_ => ld1 (T := 3) (i := 2) (k_.heap hb4 id)) (k := ?_)
      refine WQ.op (d := 48) (.int .u8 (IntKind.u8.wrap q2)) (k := ?_)
      refine WQ.bin (d := 49) (v := .int .u8 (bits BinOp.xor IntKind.u8 (((bytesC (List.map GCmd.p (goodL l)))[0 + (r38).toNat * 1]'(by omega)).toNat : Int) (IntKind.u8.wrap q2))) (fun _ => bits_run (by decide)) (k := ?_)
      refine WQ.idx (T := 38) (E := 5) (m := 1) (b := b24) (o := 0) (len := (bytesC (List.map GCmd.p (goodL l))).length) (cap := c25) (i := r38) (kk := .i64) (d := 50) (by omega) (by omega) (k := ?_)
      refine WQ.nilL (fun w40 k41 => ?_)
      replace hb4 := k41.heap hb4 id
      replace ho17 := ho17.adds k41
      replace hy29 := hy29.keeps k41 id
      replace K := K.trans (k41.any _)
      obtain ⟨u42, hu43⟩ := bits_u8 BinOp.xor (((bytesC (List.map GCmd.p (goodL l)))[0 + (r38).toNat * 1]'(by omega)).toNat : Int) (IntKind.u8.wrap q2)
      refine WL.rw (t := 49) (v := .int .u8 (u42.toNat : Int)) (congrArg (Value.int .u8) hu43) (k := ?_)
      obtain ⟨w44, hs45, hy46, k47⟩ := bytes_st (i := 0 + (r38).toNat * 1) hy29 (by omega) u42
      refine WL.wr (v := .int .u8 (u42.toNat : Int)) hs45 (k := ?_)
      replace hb4 := k47.heap hb4 n32
      replace ho17 := ho17.keeps k47 (fun i hi e => (ho17.offT hy29.2 (by decide)) (e ▸ hi))
      replace K := K.trans' k47 (fun i hi e => absurd (e ▸ hi) (Nat.not_lt.2 z31))
      clear hs45 hy29
      refine WL.nil ?_
      refine WX.seqN ?_
      refine WC.seq ?_
      refine WC.region ?_
      refine WL.op (d := 51) (.slice (some ⟨b24, 0, none⟩) ((bytesC (List.map GCmd.p (goodL l))).length) c25) (k := ?_)
      refine WL.conv (d := 52) (vx := .slice (some ⟨b24, 0, none⟩) ((bytesC (List.map GCmd.p (goodL l))).length) c25) (v := .string ⟨(List.set (bytesC (List.map GCmd.p (goodL l))) (0 + (r38).toNat * 1) u42).toArray⟩) (bytes_strN hy46 (by simp)) (k := ?_)
      refine WL.op (d := 1) (.string ⟨(List.set (bytesC (List.map GCmd.p (goodL l))) (0 + (r38).toNat * 1) u42).toArray⟩) (k := ?_)
      refine WL.nil ?_
      refine WX.seqN ?_
      refine WC.seq ?_
      refine WC.region ?_
      refine WL.op (d := 53) (.pointer (some ⟨b1, 0, none⟩)) (k := ?_)
      refine WL.load (v := .int .i64 q0) (ld1 (T := 3) (i := 0) hb4) (k := ?_)
      refine WL.bin (d := 55) (v := .int .i64 (bits BinOp.and IntKind.i64 q0 3)) (bits_run (by decide)) (k := ?_)
      refine WL.op (d := 56) (.bool ((bits BinOp.and IntKind.i64 q0 3) == 3)) (k := ?_)
      refine WL.nil ?_
      refine WX.seqN ?_
      refine WC.cond (b := (bits BinOp.and IntKind.i64 q0 3) == 3) (ht := fun h48 => ?_) (hf := fun h48 => ?_)
      · have ph48 := eq_of_beq h48
        refine WC.region ?_
        refine WL.op (d := 57) (.string ⟨(List.set (bytesC (List.map GCmd.p (goodL l))) (0 + (r38).toNat * 1) u42).toArray⟩) (k := ?_)
        refine WL.op (d := 58) (.int .i64 r38) (k := ?_)
        refine WL.cut (d := 59) (vx := .string ⟨(List.set (bytesC (List.map GCmd.p (goodL l))) (0 + (r38).toNat * 1) u42).toArray⟩) (lo' := none) (hi' := (some (.int .i64 r38))) (mx' := none) (v := .string ⟨(List.take r38.toNat (List.set (bytesC (List.map GCmd.p (goodL l))) (0 + (r38).toNat * 1) u42)).toArray⟩) (run_cut (P := Try.prog) (w := w44) (lo := none) (hi := (some (.int .i64 r38))) (T := 9) (a := 0) (b := r38.toNat) (l := (List.set (bytesC (List.map GCmd.p (goodL l))) (0 + (r38).toNat * 1) u42)) (by kernel_rfl) (.inl ⟨rfl, rfl⟩) (.inr ⟨_, _, rfl, by omega⟩) (by first | omega | (simp; omega)) (by first | omega | (simp; omega))) (k := ?_)
        refine WL.op (d := 1) (.string ⟨(List.take r38.toNat (List.set (bytesC (List.map GCmd.p (goodL l))) (0 + (r38).toNat * 1) u42)).toArray⟩) (k := ?_)
        refine WL.nil ?_
        refine WX.seqN ?_
        refine WC.seq ?_
        refine WC.region ?_
        refine WL.op (d := 61) (.string ⟨(List.take r38.toNat (List.set (bytesC (List.map GCmd.p (goodL l))) (0 + (r38).toNat * 1) u42)).toArray⟩) (k := ?_)
        refine WL.callG (d := 62) (f := 17) (args := #[.string ⟨(List.take r38.toNat (List.set (bytesC (List.map GCmd.p (goodL l))) (0 + (r38).toNat * 1) u42)).toArray⟩]) (sRead_c (l := (List.take r38.toNat (List.set (bytesC (List.map GCmd.p (goodL l))) (0 + (r38).toNat * 1) u42))) (by show List.length (List.take r38.toNat (List.set (bytesC (List.map GCmd.p (goodL l))) (0 + (r38).toNat * 1) u42)) ≤ _; first | omega | (simp; omega))) (k := fun e_ w49 h_ => ?_)
        obtain ⟨xs50, A51, c52, r53, rfl, ho54, hF55, hP56, k57, ol58⟩ := h_
        refine ⟨_, rfl, ?_⟩
        have ol59 := fun i h => Nat.le_trans K.size (ol58 i h)
        replace hb4 := k57.heap hb4 id
        replace ho17 := ho17.adds k57
        replace hy46 := hy46.keeps k57 id
        replace K := K.trans (k57.any _)
        clear ol58
        have pl60 := hP56.len
        have ll61 : List.length (List.take r38.toNat (List.set (bytesC (List.map GCmd.p (goodL l))) (0 + (r38).toNat * 1) u42)) ≤ 1000000 := (by show List.length (List.take r38.toNat (List.set (bytesC (List.map GCmd.p (goodL l))) (0 + (r38).toNat * 1) u42)) ≤ _; first | omega | (simp; omega))
        refine WL.op (d := 60) (.tuple #[.slice A51 xs50.length c52, .int .i64 (((List.take r38.toNat (List.set (bytesC (List.map GCmd.p (goodL l))) (0 + (r38).toNat * 1) u42)).length - r53.length : Nat) : Int), .int .i64 (readEr r53)]) (k := ?_)
        refine WL.op (d := 63) (.slice A51 xs50.length c52) (k := ?_)
        refine WL.op (d := 64) (.int .i64 (((List.take r38.toNat (List.set (bytesC (List.map GCmd.p (goodL l))) (0 + (r38).toNat * 1) u42)).length - r53.length : Nat) : Int)) (k := ?_)
        refine WL.op (d := 65) (.int .i64 (readEr r53)) (k := ?_)
        refine WL.op (d := 10) (.slice A51 xs50.length c52) (k := ?_)
        refine WL.op (d := 11) (.int .i64 (((List.take r38.toNat (List.set (bytesC (List.map GCmd.p (goodL l))) (0 + (r38).toNat * 1) u42)).length - r53.length : Nat) : Int)) (k := ?_)
        refine WL.op (d := 12) (.int .i64 (readEr r53)) (k := ?_)
        refine WL.nil ?_
        refine WX.seqN ?_
        refine WC.seq ?_
        refine WC.region ?_
        refine WL.op (d := 66) (.string ⟨(List.take r38.toNat (List.set (bytesC (List.map GCmd.p (goodL l))) (0 + (r38).toNat * 1) u42)).toArray⟩) (k := ?_)
        refine WL.callG (d := 67) (f := 18) (args := #[.string ⟨(List.take r38.toNat (List.set (bytesC (List.map GCmd.p (goodL l))) (0 + (r38).toNat * 1) u42)).toArray⟩]) (u23Read_c (l := (List.take r38.toNat (List.set (bytesC (List.map GCmd.p (goodL l))) (0 + (r38).toNat * 1) u42))) (by show List.length (List.take r38.toNat (List.set (bytesC (List.map GCmd.p (goodL l))) (0 + (r38).toNat * 1) u42)) ≤ _; first | omega | (simp; omega))) (k := fun e_ w62 h_ => ?_)
        obtain ⟨xs63, A64, c65, r66, rfl, ho67, hF68, hP69, k70, ol71⟩ := h_
        refine ⟨_, rfl, ?_⟩
        have ol72 := fun i h => Nat.le_trans K.size (ol71 i h)
        replace hb4 := k70.heap hb4 id
        replace ho17 := ho17.adds k70
        replace hy46 := hy46.keeps k70 id
        replace ho54 := ho54.adds k70
        replace hF55 := hF55.adds k70
        replace K := K.trans (k70.any _)
        clear ol71
        have pl73 := hP69.len
        have ll74 : List.length (List.take r38.toNat (List.set (bytesC (List.map GCmd.p (goodL l))) (0 + (r38).toNat * 1) u42)) ≤ 1000000 := (by show List.length (List.take r38.toNat (List.set (bytesC (List.map GCmd.p (goodL l))) (0 + (r38).toNat * 1) u42)) ≤ _; first | omega | (simp; omega))
        refine WL.new (d := 13) (T := 43) #[.slice none 0 0, .int .i64 0, .int .i64 0] (k := fun b75 w76 g77 hb78 k79 => ?_)
        have z80 := Nat.le_trans K.size g77
        have n81 : b1 ≠ b75 := Nat.ne_of_lt (Nat.lt_of_lt_of_le (lt_of_heap hb4) g77)
        have n82 : b24 ≠ b75 := Nat.ne_of_lt (Nat.lt_of_lt_of_le hy46.lt g77)
        replace hb4 := k79.heap hb4 id
        replace ho17 := ho17.adds k79
        replace hy46 := hy46.keeps k79 id
        replace ho54 := ho54.adds k79
        replace ho67 := ho67.adds k79
        replace hF55 := hF55.adds k79
        replace hF68 := hF68.adds k79
        replace K := K.trans (k79.any _)
        refine WL.store (v := .agg #[.slice A64 xs63.length c65, .int .i64 (((List.take r38.toNat (List.set (bytesC (List.map GCmd.p (goodL l))) (0 + (r38).toNat * 1) u42)).length - r66.length : Nat) : Int), .int .i64 (readEr r66)]) (i := 0) (cs' := #[.slice A64 xs63.length c65, .int .i64 (((List.take r38.toNat (List.set (bytesC (List.map GCmd.p (goodL l))) (0 + (r38).toNat * 1) u42)).length - r66.length : Nat) : Int), .int .i64 (readEr r66)]) hb78 (k := fun w83 hb84 k85 => ?_)
        replace hb4 := k85.heap hb4 n81
        replace ho17 := ho17.keeps k85 (fun i hi e => (ho17.offT hb78 (by decide)) (e ▸ hi))
        replace hy46 := hy46.keeps k85 n82
        replace ho54 := ho54.keeps k85 (fun i hi e => (ho54.offT hb78 (by decide)) (e ▸ hi))
        replace ho67 := ho67.keeps k85 (fun i hi e => (ho67.offT hb78 (by decide)) (e ▸ hi))
        replace hF55 := hF55.keepsT k85 hb78 (by decide)
        replace hF68 := hF68.keepsT k85 hb78 (by decide)
        replace K := K.trans' k85 (fun i hi e => absurd (e ▸ hi) (Nat.not_lt.2 z80))
        clear hb78
        refine WL.nil ?_
        refine WX.seqN ?_
        refine WC.seq ?_
        obtain ⟨hu1, hu2⟩ := Parsed.uniq hP56 hP69
        refine WC.region ?_
        refine WL.op (d := 68) (.slice A51 xs50.length c52) (k := ?_)
        refine WL.op (d := 69) (.pointer (some ⟨b75, 0, none⟩)) (k := ?_)
        refine WL.load (v := .slice A64 xs63.length c65) (ld1 (T := 22) (i := 0) hb84) (k := ?_)
        refine WL.callG (d := 71) (f := 19) (args := #[.slice A51 xs50.length c52, .slice A64 xs63.length c65]) (u23SameAll_c (cp := c52) (cq := c65) (ho54.sl ekCmd) (Fts.le hF55.fts (by omega)) (by omega) (ho67.sl ekCmd) (Fts.le hF68.fts (by omega)) (by omega)) (k := fun e_ w86 h_ => ⟨.bool (decide (List.map GCmd.p xs50 = List.map GCmd.p xs63)), h_.1, ?_⟩)
        have k87 := h_.2; clear h_
        replace hb4 := k87.heap hb4 id
        replace ho17 := ho17.adds k87
        replace hy46 := hy46.keeps k87 id
        replace ho54 := ho54.adds k87
        replace ho67 := ho67.adds k87
        replace hb84 := k87.heap hb84 id
        replace hF55 := hF55.adds k87
        replace hF68 := hF68.adds k87
        replace K := K.trans (k87.any _)
        refine WL.op (d := 14) (.bool (decide (List.map GCmd.p xs50 = List.map GCmd.p xs63))) (k := ?_)
        refine WL.nil ?_
        refine WX.seqN ?_
        refine WC.seq ?_
        refine WC.region ?_
        refine WL.op (d := 72) (.bool true) (k := ?_)
        refine WL.op (d := 73) (.bool true) (k := ?_)
        refine WL.op (d := 74) (.bool (decide (List.map GCmd.p xs50 = List.map GCmd.p xs63))) (k := ?_)
        refine WL.op (d := 75) (.bool (decide (List.map GCmd.p xs50 = List.map GCmd.p xs63))) (k := ?_)
        refine WL.op (d := 76) (.bool (decide (List.map GCmd.p xs50 = List.map GCmd.p xs63))) (k := ?_)
        refine bsplit (decide (List.map GCmd.p xs50 = List.map GCmd.p xs63)) (fun h88 => ?_) (fun h88 => ?_)
        · have ph88 := of_decide_eq_true h88
          refine WL.rw (t := 76) (v := .bool true) (congrArg Value.bool h88) (k := ?_)
          refine WL.op (d := 77) (.int .i64 (((List.take r38.toNat (List.set (bytesC (List.map GCmd.p (goodL l))) (0 + (r38).toNat * 1) u42)).length - r53.length : Nat) : Int)) (k := ?_)
          refine WL.op (d := 78) (.pointer (some ⟨b75, 1, none⟩)) (k := ?_)
          refine WL.load (v := .int .i64 (((List.take r38.toNat (List.set (bytesC (List.map GCmd.p (goodL l))) (0 + (r38).toNat * 1) u42)).length - r66.length : Nat) : Int)) (ld1 (T := 3) (i := 1) hb84) (k := ?_)
          refine WL.op (d := 80) (.bool ((((List.take r38.toNat (List.set (bytesC (List.map GCmd.p (goodL l))) (0 + (r38).toNat * 1) u42)).length - r53.length : Nat) : Int) == (((List.take r38.toNat (List.set (bytesC (List.map GCmd.p (goodL l))) (0 + (r38).toNat * 1) u42)).length - r66.length : Nat) : Int))) (k := ?_)
          refine WL.op (d := 81) (.bool ((((List.take r38.toNat (List.set (bytesC (List.map GCmd.p (goodL l))) (0 + (r38).toNat * 1) u42)).length - r53.length : Nat) : Int) == (((List.take r38.toNat (List.set (bytesC (List.map GCmd.p (goodL l))) (0 + (r38).toNat * 1) u42)).length - r66.length : Nat) : Int))) (k := ?_)
          refine WL.op (d := 82) (.bool ((((List.take r38.toNat (List.set (bytesC (List.map GCmd.p (goodL l))) (0 + (r38).toNat * 1) u42)).length - r53.length : Nat) : Int) == (((List.take r38.toNat (List.set (bytesC (List.map GCmd.p (goodL l))) (0 + (r38).toNat * 1) u42)).length - r66.length : Nat) : Int))) (k := ?_)
          refine bsplit ((((List.take r38.toNat (List.set (bytesC (List.map GCmd.p (goodL l))) (0 + (r38).toNat * 1) u42)).length - r53.length : Nat) : Int) == (((List.take r38.toNat (List.set (bytesC (List.map GCmd.p (goodL l))) (0 + (r38).toNat * 1) u42)).length - r66.length : Nat) : Int)) (fun h89 => ?_) (fun h89 => ?_)
          · have ph89 := eq_of_beq h89
            refine WL.rw (t := 82) (v := .bool true) (congrArg Value.bool h89) (k := ?_)
            refine WL.op (d := 83) (.int .i64 (readEr r53)) (k := ?_)
            refine WL.op (d := 84) (.pointer (some ⟨b75, 2, none⟩)) (k := ?_)
            refine WL.load (v := .int .i64 (readEr r66)) (ld1 (T := 39) (i := 2) hb84) (k := ?_)
            refine WL.op (d := 86) (.bool ((readEr r53) == (readEr r66))) (k := ?_)
            refine WL.op (d := 87) (.bool ((readEr r53) == (readEr r66))) (k := ?_)
            refine WL.op (d := 6) (.bool ((readEr r53) == (readEr r66))) (k := ?_)
            refine WL.nil ?_
            refine WX.seqN ?_
            refine WC.ret ?_
            refine WX.ret (rs := [.tmp 6]) [.bool ((readEr r53) == (readEr r66))] (.bool ((readEr r53) == (readEr r66))) ⟨(by kernel_rfl), trivial⟩ (k := ?_)
            exact ⟨ret_bool (by rw [hu2]; exact beq_self_eq_true _), K⟩
          · have ph89 := ne_of_beq_false h89
            refine WL.rw (t := 82) (v := .bool false) (congrArg Value.bool h89) (k := ?_)
            refine WL.skip (d := 83) (k := ?_)
            refine WL.skip (d := 84) (k := ?_)
            refine WL.skip (d := 85) (k := ?_)
            refine WL.skip (d := 86) (k := ?_)
            refine WL.op (d := 87) (.bool false) (k := ?_)
            refine WL.op (d := 6) (.bool false) (k := ?_)
            refine WL.nil ?_
            refine WX.seqN ?_
            refine WC.ret ?_
            refine WX.ret (rs := [.tmp 6]) [.bool false] (.bool false) ⟨(by kernel_rfl), trivial⟩ (k := ?_)
            exact absurd (by first | exact hu1 | rw [hu2]) ph89
        · have ph88 := of_decide_eq_false h88
          refine WL.rw (t := 76) (v := .bool false) (congrArg Value.bool h88) (k := ?_)
          refine WL.skip (d := 77) (k := ?_)
          refine WL.skip (d := 78) (k := ?_)
          refine WL.skip (d := 79) (k := ?_)
          refine WL.skip (d := 80) (k := ?_)
          refine WL.op (d := 81) (.bool false) (k := ?_)
          refine WL.op (d := 82) (.bool false) (k := ?_)
          refine WL.skip (d := 83) (k := ?_)
          refine WL.skip (d := 84) (k := ?_)
          refine WL.skip (d := 85) (k := ?_)
          refine WL.skip (d := 86) (k := ?_)
          refine WL.op (d := 87) (.bool false) (k := ?_)
          refine WL.op (d := 6) (.bool false) (k := ?_)
          refine WL.nil ?_
          refine WX.seqN ?_
          refine WC.ret ?_
          refine WX.ret (rs := [.tmp 6]) [.bool false] (.bool false) ⟨(by kernel_rfl), trivial⟩ (k := ?_)
          exact absurd (by first | exact hu1 | rw [hu2]) ph88
      · have ph48 := ne_of_beq_false h48
        refine WC.skip ?_
        refine WX.seqN ?_
        refine WC.seq ?_
        refine WC.region ?_
        refine WL.op (d := 61) (.string ⟨(List.set (bytesC (List.map GCmd.p (goodL l))) (0 + (r38).toNat * 1) u42).toArray⟩) (k := ?_)
        refine WL.callG (d := 62) (f := 17) (args := #[.string ⟨(List.set (bytesC (List.map GCmd.p (goodL l))) (0 + (r38).toNat * 1) u42).toArray⟩]) (sRead_c (l := (List.set (bytesC (List.map GCmd.p (goodL l))) (0 + (r38).toNat * 1) u42)) (by show List.length (List.set (bytesC (List.map GCmd.p (goodL l))) (0 + (r38).toNat * 1) u42) ≤ _; first | omega | (simp; omega))) (k := fun e_ w90 h_ => ?_)
        obtain ⟨xs91, A92, c93, r94, rfl, ho95, hF96, hP97, k98, ol99⟩ := h_
        refine ⟨_, rfl, ?_⟩
        have ol100 := fun i h => Nat.le_trans K.size (ol99 i h)
        replace hb4 := k98.heap hb4 id
        replace ho17 := ho17.adds k98
        replace hy46 := hy46.keeps k98 id
        replace K := K.trans (k98.any _)
        clear ol99
        have pl101 := hP97.len
        have ll102 : List.length (List.set (bytesC (List.map GCmd.p (goodL l))) (0 + (r38).toNat * 1) u42) ≤ 1000000 := (by show List.length (List.set (bytesC (List.map GCmd.p (goodL l))) (0 + (r38).toNat * 1) u42) ≤ _; first | omega | (simp; omega))
        refine WL.op (d := 60) (.tuple #[.slice A92 xs91.length c93, .int .i64 (((List.set (bytesC (List.map GCmd.p (goodL l))) (0 + (r38).toNat * 1) u42).length - r94.length : Nat) : Int), .int .i64 (readEr r94)]) (k := ?_)
        refine WL.op (d := 63) (.slice A92 xs91.length c93) (k := ?_)
        refine WL.op (d := 64) (.int .i64 (((List.set (bytesC (List.map GCmd.p (goodL l))) (0 + (r38).toNat * 1) u42).length - r94.length : Nat) : Int)) (k := ?_)
        refine WL.op (d := 65) (.int .i64 (readEr r94)) (k := ?_)
        refine WL.op (d := 10) (.slice A92 xs91.length c93) (k := ?_)
        refine WL.op (d := 11) (.int .i64 (((List.set (bytesC (List.map GCmd.p (goodL l))) (0 + (r38).toNat * 1) u42).length - r94.length : Nat) : Int)) (k := ?_)
        refine WL.op (d := 12) (.int .i64 (readEr r94)) (k := ?_)
        refine WL.nil ?_
        refine WX.seqN ?_
        refine WC.seq ?_
        refine WC.region ?_
        refine WL.op (d := 66) (.string ⟨(List.set (bytesC (List.map GCmd.p (goodL l))) (0 + (r38).toNat * 1) u42).toArray⟩) (k := ?_)
        refine WL.callG (d := 67) (f := 18) (args := #[.string ⟨(List.set (bytesC (List.map GCmd.p (goodL l))) (0 + (r38).toNat * 1) u42).toArray⟩]) (u23Read_c (l := (List.set (bytesC (List.map GCmd.p (goodL l))) (0 + (r38).toNat * 1) u42)) (by show List.length (List.set (bytesC (List.map GCmd.p (goodL l))) (0 + (r38).toNat * 1) u42) ≤ _; first | omega | (simp; omega))) (k := fun e_ w103 h_ => ?_)
        obtain ⟨xs104, A105, c106, r107, rfl, ho108, hF109, hP110, k111, ol112⟩ := h_
        refine ⟨_, rfl, ?_⟩
        have ol113 := fun i h => Nat.le_trans K.size (ol112 i h)
        replace hb4 := k111.heap hb4 id
        replace ho17 := ho17.adds k111
        replace hy46 := hy46.keeps k111 id
        replace ho95 := ho95.adds k111
        replace hF96 := hF96.adds k111
        replace K := K.trans (k111.any _)
        clear ol112
        have pl114 := hP110.len
        have ll115 : List.length (List.set (bytesC (List.map GCmd.p (goodL l))) (0 + (r38).toNat * 1) u42) ≤ 1000000 := (by show List.length (List.set (bytesC (List.map GCmd.p (goodL l))) (0 + (r38).toNat * 1) u42) ≤ _; first | omega | (simp; omega))
        refine WL.new (d := 13) (T := 43) #[.slice none 0 0, .int .i64 0, .int .i64 0] (k := fun b116 w117 g118 hb119 k120 => ?_)
        have z121 := Nat.le_trans K.size g118
        have n122 : b1 ≠ b116 := Nat.ne_of_lt (Nat.lt_of_lt_of_le (lt_of_heap hb4) g118)
        have n123 : b24 ≠ b116 := Nat.ne_of_lt (Nat.lt_of_lt_of_le hy46.lt g118)
        replace hb4 := k120.heap hb4 id
        replace ho17 := ho17.adds k120
        replace hy46 := hy46.keeps k120 id
        replace ho95 := ho95.adds k120
        replace ho108 := ho108.adds k120
        replace hF96 := hF96.adds k120
        replace hF109 := hF109.adds k120
        replace K := K.trans (k120.any _)
        refine WL.store (v := .agg #[.slice A105 xs104.length c106, .int .i64 (((List.set (bytesC (List.map GCmd.p (goodL l))) (0 + (r38).toNat * 1) u42).length - r107.length : Nat) : Int), .int .i64 (readEr r107)]) (i := 0) (cs' := #[.slice A105 xs104.length c106, .int .i64 (((List.set (bytesC (List.map GCmd.p (goodL l))) (0 + (r38).toNat * 1) u42).length - r107.length : Nat) : Int), .int .i64 (readEr r107)]) hb119 (k := fun w124 hb125 k126 => ?_)
        replace hb4 := k126.heap hb4 n122
        replace ho17 := ho17.keeps k126 (fun i hi e => (ho17.offT hb119 (by decide)) (e ▸ hi))
        replace hy46 := hy46.keeps k126 n123
        replace ho95 := ho95.keeps k126 (fun i hi e => (ho95.offT hb119 (by decide)) (e ▸ hi))
        replace ho108 := ho108.keeps k126 (fun i hi e => (ho108.offT hb119 (by decide)) (e ▸ hi))
        replace hF96 := hF96.keepsT k126 hb119 (by decide)
        replace hF109 := hF109.keepsT k126 hb119 (by decide)
        replace K := K.trans' k126 (fun i hi e => absurd (e ▸ hi) (Nat.not_lt.2 z121))
        clear hb119
        refine WL.nil ?_
        refine WX.seqN ?_
        refine WC.seq ?_
        obtain ⟨hu1, hu2⟩ := Parsed.uniq hP97 hP110
        refine WC.region ?_
        refine WL.op (d := 68) (.slice A92 xs91.length c93) (k := ?_)
        refine WL.op (d := 69) (.pointer (some ⟨b116, 0, none⟩)) (k := ?_)
        refine WL.load (v := .slice A105 xs104.length c106) (ld1 (T := 22) (i := 0) hb125) (k := ?_)
        refine WL.callG (d := 71) (f := 19) (args := #[.slice A92 xs91.length c93, .slice A105 xs104.length c106]) (u23SameAll_c (cp := c93) (cq := c106) (ho95.sl ekCmd) (Fts.le hF96.fts (by omega)) (by omega) (ho108.sl ekCmd) (Fts.le hF109.fts (by omega)) (by omega)) (k := fun e_ w127 h_ => ⟨.bool (decide (List.map GCmd.p xs91 = List.map GCmd.p xs104)), h_.1, ?_⟩)
        have k128 := h_.2; clear h_
        replace hb4 := k128.heap hb4 id
        replace ho17 := ho17.adds k128
        replace hy46 := hy46.keeps k128 id
        replace ho95 := ho95.adds k128
        replace ho108 := ho108.adds k128
        replace hb125 := k128.heap hb125 id
        replace hF96 := hF96.adds k128
        replace hF109 := hF109.adds k128
        replace K := K.trans (k128.any _)
        refine WL.op (d := 14) (.bool (decide (List.map GCmd.p xs91 = List.map GCmd.p xs104))) (k := ?_)
        refine WL.nil ?_
        refine WX.seqN ?_
        refine WC.seq ?_
        refine WC.region ?_
        refine WL.op (d := 72) (.bool true) (k := ?_)
        refine WL.op (d := 73) (.bool true) (k := ?_)
        refine WL.op (d := 74) (.bool (decide (List.map GCmd.p xs91 = List.map GCmd.p xs104))) (k := ?_)
        refine WL.op (d := 75) (.bool (decide (List.map GCmd.p xs91 = List.map GCmd.p xs104))) (k := ?_)
        refine WL.op (d := 76) (.bool (decide (List.map GCmd.p xs91 = List.map GCmd.p xs104))) (k := ?_)
        refine bsplit (decide (List.map GCmd.p xs91 = List.map GCmd.p xs104)) (fun h129 => ?_) (fun h129 => ?_)
        · have ph129 := of_decide_eq_true h129
          refine WL.rw (t := 76) (v := .bool true) (congrArg Value.bool h129) (k := ?_)
          refine WL.op (d := 77) (.int .i64 (((List.set (bytesC (List.map GCmd.p (goodL l))) (0 + (r38).toNat * 1) u42).length - r94.length : Nat) : Int)) (k := ?_)
          refine WL.op (d := 78) (.pointer (some ⟨b116, 1, none⟩)) (k := ?_)
          refine WL.load (v := .int .i64 (((List.set (bytesC (List.map GCmd.p (goodL l))) (0 + (r38).toNat * 1) u42).length - r107.length : Nat) : Int)) (ld1 (T := 3) (i := 1) hb125) (k := ?_)
          refine WL.op (d := 80) (.bool ((((List.set (bytesC (List.map GCmd.p (goodL l))) (0 + (r38).toNat * 1) u42).length - r94.length : Nat) : Int) == (((List.set (bytesC (List.map GCmd.p (goodL l))) (0 + (r38).toNat * 1) u42).length - r107.length : Nat) : Int))) (k := ?_)
          refine WL.op (d := 81) (.bool ((((List.set (bytesC (List.map GCmd.p (goodL l))) (0 + (r38).toNat * 1) u42).length - r94.length : Nat) : Int) == (((List.set (bytesC (List.map GCmd.p (goodL l))) (0 + (r38).toNat * 1) u42).length - r107.length : Nat) : Int))) (k := ?_)
          refine WL.op (d := 82) (.bool ((((List.set (bytesC (List.map GCmd.p (goodL l))) (0 + (r38).toNat * 1) u42).length - r94.length : Nat) : Int) == (((List.set (bytesC (List.map GCmd.p (goodL l))) (0 + (r38).toNat * 1) u42).length - r107.length : Nat) : Int))) (k := ?_)
          refine bsplit ((((List.set (bytesC (List.map GCmd.p (goodL l))) (0 + (r38).toNat * 1) u42).length - r94.length : Nat) : Int) == (((List.set (bytesC (List.map GCmd.p (goodL l))) (0 + (r38).toNat * 1) u42).length - r107.length : Nat) : Int)) (fun h130 => ?_) (fun h130 => ?_)
          · have ph130 := eq_of_beq h130
            refine WL.rw (t := 82) (v := .bool true) (congrArg Value.bool h130) (k := ?_)
            refine WL.op (d := 83) (.int .i64 (readEr r94)) (k := ?_)
            refine WL.op (d := 84) (.pointer (some ⟨b116, 2, none⟩)) (k := ?_)
            refine WL.load (v := .int .i64 (readEr r107)) (ld1 (T := 39) (i := 2) hb125) (k := ?_)
            refine WL.op (d := 86) (.bool ((readEr r94) == (readEr r107))) (k := ?_)
            refine WL.op (d := 87) (.bool ((readEr r94) == (readEr r107))) (k := ?_)
            refine WL.op (d := 6) (.bool ((readEr r94) == (readEr r107))) (k := ?_)
            refine WL.nil ?_
            refine WX.seqN ?_
            refine WC.ret ?_
            refine WX.ret (rs := [.tmp 6]) [.bool ((readEr r94) == (readEr r107))] (.bool ((readEr r94) == (readEr r107))) ⟨(by kernel_rfl), trivial⟩ (k := ?_)
            exact ⟨ret_bool (by rw [hu2]; exact beq_self_eq_true _), K⟩
          · have ph130 := ne_of_beq_false h130
            refine WL.rw (t := 82) (v := .bool false) (congrArg Value.bool h130) (k := ?_)
            refine WL.skip (d := 83) (k := ?_)
            refine WL.skip (d := 84) (k := ?_)
            refine WL.skip (d := 85) (k := ?_)
            refine WL.skip (d := 86) (k := ?_)
            refine WL.op (d := 87) (.bool false) (k := ?_)
            refine WL.op (d := 6) (.bool false) (k := ?_)
            refine WL.nil ?_
            refine WX.seqN ?_
            refine WC.ret ?_
            refine WX.ret (rs := [.tmp 6]) [.bool false] (.bool false) ⟨(by kernel_rfl), trivial⟩ (k := ?_)
            exact absurd (by first | exact hu1 | rw [hu2]) ph130
        · have ph129 := of_decide_eq_false h129
          refine WL.rw (t := 76) (v := .bool false) (congrArg Value.bool h129) (k := ?_)
          refine WL.skip (d := 77) (k := ?_)
          refine WL.skip (d := 78) (k := ?_)
          refine WL.skip (d := 79) (k := ?_)
          refine WL.skip (d := 80) (k := ?_)
          refine WL.op (d := 81) (.bool false) (k := ?_)
          refine WL.op (d := 82) (.bool false) (k := ?_)
          refine WL.skip (d := 83) (k := ?_)
          refine WL.skip (d := 84) (k := ?_)
          refine WL.skip (d := 85) (k := ?_)
          refine WL.skip (d := 86) (k := ?_)
          refine WL.op (d := 87) (.bool false) (k := ?_)
          refine WL.op (d := 6) (.bool false) (k := ?_)
          refine WL.nil ?_
          refine WX.seqN ?_
          refine WC.ret ?_
          refine WX.ret (rs := [.tmp 6]) [.bool false] (.bool false) ⟨(by kernel_rfl), trivial⟩ (k := ?_)
          exact absurd (by first | exact hu1 | rw [hu2]) ph129
    · have ph33 := of_decide_eq_false h33
      refine WC.skip ?_
      refine WX.seqN ?_
      refine WC.seq ?_
      refine WC.region ?_
      refine WL.op (d := 61) (.string ⟨(l10).toArray⟩) (k := ?_)
      refine WL.callG (d := 62) (f := 17) (args := #[.string ⟨(l10).toArray⟩]) (sRead_c (l := l10) (by show List.length l10 ≤ _; first | omega | (simp; omega))) (k := fun e_ w131 h_ => ?_)
      obtain ⟨xs132, A133, c134, r135, rfl, ho136, hF137, hP138, k139, ol140⟩ := h_
      refine ⟨_, rfl, ?_⟩
      have ol141 := fun i h => Nat.le_trans K.size (ol140 i h)
      replace hb4 := k139.heap hb4 id
      replace ho17 := ho17.adds k139
      replace hy29 := hy29.keeps k139 id
      replace K := K.trans (k139.any _)
      clear ol140
      have pl142 := hP138.len
      have ll143 : List.length l10 ≤ 1000000 := (by show List.length l10 ≤ _; first | omega | (simp; omega))
      refine WL.op (d := 60) (.tuple #[.slice A133 xs132.length c134, .int .i64 ((l10.length - r135.length : Nat) : Int), .int .i64 (readEr r135)]) (k := ?_)
      refine WL.op (d := 63) (.slice A133 xs132.length c134) (k := ?_)
      refine WL.op (d := 64) (.int .i64 ((l10.length - r135.length : Nat) : Int)) (k := ?_)
      refine WL.op (d := 65) (.int .i64 (readEr r135)) (k := ?_)
      refine WL.op (d := 10) (.slice A133 xs132.length c134) (k := ?_)
      refine WL.op (d := 11) (.int .i64 ((l10.length - r135.length : Nat) : Int)) (k := ?_)
      refine WL.op (d := 12) (.int .i64 (readEr r135)) (k := ?_)
      refine WL.nil ?_
      refine WX.seqN ?_
      refine WC.seq ?_
      refine WC.region ?_
      refine WL.op (d := 66) (.string ⟨(l10).toArray⟩) (k := ?_)
      refine WL.callG (d := 67) (f := 18) (args := #[.string ⟨(l10).toArray⟩]) (u23Read_c (l := l10) (by show List.length l10 ≤ _; first | omega | (simp; omega))) (k := fun e_ w144 h_ => ?_)
      obtain ⟨xs145, A146, c147, r148, rfl, ho149, hF150, hP151, k152, ol153⟩ := h_
      refine ⟨_, rfl, ?_⟩
      have ol154 := fun i h => Nat.le_trans K.size (ol153 i h)
      replace hb4 := k152.heap hb4 id
      replace ho17 := ho17.adds k152
      replace hy29 := hy29.keeps k152 id
      replace ho136 := ho136.adds k152
      replace hF137 := hF137.adds k152
      replace K := K.trans (k152.any _)
      clear ol153
      have pl155 := hP151.len
      have ll156 : List.length l10 ≤ 1000000 := (by show List.length l10 ≤ _; first | omega | (simp; omega))
      refine WL.new (d := 13) (T := 43) #[.slice none 0 0, .int .i64 0, .int .i64 0] (k := fun b157 w158 g159 hb160 k161 => ?_)
      have z162 := Nat.le_trans K.size g159
      have n163 : b1 ≠ b157 := Nat.ne_of_lt (Nat.lt_of_lt_of_le (lt_of_heap hb4) g159)
      have n164 : b24 ≠ b157 := Nat.ne_of_lt (Nat.lt_of_lt_of_le hy29.lt g159)
      replace hb4 := k161.heap hb4 id
      replace ho17 := ho17.adds k161
      replace hy29 := hy29.keeps k161 id
      replace ho136 := ho136.adds k161
      replace ho149 := ho149.adds k161
      replace hF137 := hF137.adds k161
      replace hF150 := hF150.adds k161
      replace K := K.trans (k161.any _)
      refine WL.store (v := .agg #[.slice A146 xs145.length c147, .int .i64 ((l10.length - r148.length : Nat) : Int), .int .i64 (readEr r148)]) (i := 0) (cs' := #[.slice A146 xs145.length c147, .int .i64 ((l10.length - r148.length : Nat) : Int), .int .i64 (readEr r148)]) hb160 (k := fun w165 hb166 k167 => ?_)
      replace hb4 := k167.heap hb4 n163
      replace ho17 := ho17.keeps k167 (fun i hi e => (ho17.offT hb160 (by decide)) (e ▸ hi))
      replace hy29 := hy29.keeps k167 n164
      replace ho136 := ho136.keeps k167 (fun i hi e => (ho136.offT hb160 (by decide)) (e ▸ hi))
      replace ho149 := ho149.keeps k167 (fun i hi e => (ho149.offT hb160 (by decide)) (e ▸ hi))
      replace hF137 := hF137.keepsT k167 hb160 (by decide)
      replace hF150 := hF150.keepsT k167 hb160 (by decide)
      replace K := K.trans' k167 (fun i hi e => absurd (e ▸ hi) (Nat.not_lt.2 z162))
      clear hb160
      refine WL.nil ?_
      refine WX.seqN ?_
      refine WC.seq ?_
      obtain ⟨hu1, hu2⟩ := Parsed.uniq hP138 hP151
      refine WC.region ?_
      refine WL.op (d := 68) (.slice A133 xs132.length c134) (k := ?_)
      refine WL.op (d := 69) (.pointer (some ⟨b157, 0, none⟩)) (k := ?_)
      refine WL.load (v := .slice A146 xs145.length c147) (ld1 (T := 22) (i := 0) hb166) (k := ?_)
      refine WL.callG (d := 71) (f := 19) (args := #[.slice A133 xs132.length c134, .slice A146 xs145.length c147]) (u23SameAll_c (cp := c134) (cq := c147) (ho136.sl ekCmd) (Fts.le hF137.fts (by omega)) (by omega) (ho149.sl ekCmd) (Fts.le hF150.fts (by omega)) (by omega)) (k := fun e_ w168 h_ => ⟨.bool (decide (List.map GCmd.p xs132 = List.map GCmd.p xs145)), h_.1, ?_⟩)
      have k169 := h_.2; clear h_
      replace hb4 := k169.heap hb4 id
      replace ho17 := ho17.adds k169
      replace hy29 := hy29.keeps k169 id
      replace ho136 := ho136.adds k169
      replace ho149 := ho149.adds k169
      replace hb166 := k169.heap hb166 id
      replace hF137 := hF137.adds k169
      replace hF150 := hF150.adds k169
      replace K := K.trans (k169.any _)
      refine WL.op (d := 14) (.bool (decide (List.map GCmd.p xs132 = List.map GCmd.p xs145))) (k := ?_)
      refine WL.nil ?_
      refine WX.seqN ?_
      refine WC.seq ?_
      refine WC.region ?_
      refine WL.op (d := 72) (.bool true) (k := ?_)
      refine WL.op (d := 73) (.bool true) (k := ?_)
      refine WL.op (d := 74) (.bool (decide (List.map GCmd.p xs132 = List.map GCmd.p xs145))) (k := ?_)
      refine WL.op (d := 75) (.bool (decide (List.map GCmd.p xs132 = List.map GCmd.p xs145))) (k := ?_)
      refine WL.op (d := 76) (.bool (decide (List.map GCmd.p xs132 = List.map GCmd.p xs145))) (k := ?_)
      refine bsplit (decide (List.map GCmd.p xs132 = List.map GCmd.p xs145)) (fun h170 => ?_) (fun h170 => ?_)
      · have ph170 := of_decide_eq_true h170
        refine WL.rw (t := 76) (v := .bool true) (congrArg Value.bool h170) (k := ?_)
        refine WL.op (d := 77) (.int .i64 ((l10.length - r135.length : Nat) : Int)) (k := ?_)
        refine WL.op (d := 78) (.pointer (some ⟨b157, 1, none⟩)) (k := ?_)
        refine WL.load (v := .int .i64 ((l10.length - r148.length : Nat) : Int)) (ld1 (T := 3) (i := 1) hb166) (k := ?_)
        refine WL.op (d := 80) (.bool (((l10.length - r135.length : Nat) : Int) == ((l10.length - r148.length : Nat) : Int))) (k := ?_)
        refine WL.op (d := 81) (.bool (((l10.length - r135.length : Nat) : Int) == ((l10.length - r148.length : Nat) : Int))) (k := ?_)
        refine WL.op (d := 82) (.bool (((l10.length - r135.length : Nat) : Int) == ((l10.length - r148.length : Nat) : Int))) (k := ?_)
        refine bsplit (((l10.length - r135.length : Nat) : Int) == ((l10.length - r148.length : Nat) : Int)) (fun h171 => ?_) (fun h171 => ?_)
        · have ph171 := eq_of_beq h171
          refine WL.rw (t := 82) (v := .bool true) (congrArg Value.bool h171) (k := ?_)
          refine WL.op (d := 83) (.int .i64 (readEr r135)) (k := ?_)
          refine WL.op (d := 84) (.pointer (some ⟨b157, 2, none⟩)) (k := ?_)
          refine WL.load (v := .int .i64 (readEr r148)) (ld1 (T := 39) (i := 2) hb166) (k := ?_)
          refine WL.op (d := 86) (.bool ((readEr r135) == (readEr r148))) (k := ?_)
          refine WL.op (d := 87) (.bool ((readEr r135) == (readEr r148))) (k := ?_)
          refine WL.op (d := 6) (.bool ((readEr r135) == (readEr r148))) (k := ?_)
          refine WL.nil ?_
          refine WX.seqN ?_
          refine WC.ret ?_
          refine WX.ret (rs := [.tmp 6]) [.bool ((readEr r135) == (readEr r148))] (.bool ((readEr r135) == (readEr r148))) ⟨(by kernel_rfl), trivial⟩ (k := ?_)
          exact ⟨ret_bool (by rw [hu2]; exact beq_self_eq_true _), K⟩
        · have ph171 := ne_of_beq_false h171
          refine WL.rw (t := 82) (v := .bool false) (congrArg Value.bool h171) (k := ?_)
          refine WL.skip (d := 83) (k := ?_)
          refine WL.skip (d := 84) (k := ?_)
          refine WL.skip (d := 85) (k := ?_)
          refine WL.skip (d := 86) (k := ?_)
          refine WL.op (d := 87) (.bool false) (k := ?_)
          refine WL.op (d := 6) (.bool false) (k := ?_)
          refine WL.nil ?_
          refine WX.seqN ?_
          refine WC.ret ?_
          refine WX.ret (rs := [.tmp 6]) [.bool false] (.bool false) ⟨(by kernel_rfl), trivial⟩ (k := ?_)
          exact absurd (by first | exact hu1 | rw [hu2]) ph171
      · have ph170 := of_decide_eq_false h170
        refine WL.rw (t := 76) (v := .bool false) (congrArg Value.bool h170) (k := ?_)
        refine WL.skip (d := 77) (k := ?_)
        refine WL.skip (d := 78) (k := ?_)
        refine WL.skip (d := 79) (k := ?_)
        refine WL.skip (d := 80) (k := ?_)
        refine WL.op (d := 81) (.bool false) (k := ?_)
        refine WL.op (d := 82) (.bool false) (k := ?_)
        refine WL.skip (d := 83) (k := ?_)
        refine WL.skip (d := 84) (k := ?_)
        refine WL.skip (d := 85) (k := ?_)
        refine WL.skip (d := 86) (k := ?_)
        refine WL.op (d := 87) (.bool false) (k := ?_)
        refine WL.op (d := 6) (.bool false) (k := ?_)
        refine WL.nil ?_
        refine WX.seqN ?_
        refine WC.ret ?_
        refine WX.ret (rs := [.tmp 6]) [.bool false] (.bool false) ⟨(by kernel_rfl), trivial⟩ (k := ?_)
        exact absurd (by first | exact hu1 | rw [hu2]) ph170
  · have ph13 := of_bne_false h13
    refine WC.skip ?_
    refine WX.seqN ?_
    refine WC.seq ?_
    refine WC.region ?_
    refine WL.op (d := 61) (.string ⟨(l10).toArray⟩) (k := ?_)
    refine WL.callG (d := 62) (f := 17) (args := #[.string ⟨(l10).toArray⟩]) (sRead_c (l := l10) (by show List.length l10 ≤ _; first | omega | (simp; omega))) (k := fun e_ w172 h_ => ?_)
    obtain ⟨xs173, A174, c175, r176, rfl, ho177, hF178, hP179, k180, ol181⟩ := h_
    refine ⟨_, rfl, ?_⟩
    have ol182 := fun i h => Nat.le_trans K.size (ol181 i h)
    replace hb4 := k180.heap hb4 id
    replace K := K.trans (k180.any _)
    clear ol181
    have pl183 := hP179.len
    have ll184 : List.length l10 ≤ 1000000 := (by show List.length l10 ≤ _; first | omega | (simp; omega))
    refine WL.op (d := 60) (.tuple #[.slice A174 xs173.length c175, .int .i64 ((l10.length - r176.length : Nat) : Int), .int .i64 (readEr r176)]) (k := ?_)
    refine WL.op (d := 63) (.slice A174 xs173.length c175) (k := ?_)
    refine WL.op (d := 64) (.int .i64 ((l10.length - r176.length : Nat) : Int)) (k := ?_)
    refine WL.op (d := 65) (.int .i64 (readEr r176)) (k := ?_)
    refine WL.op (d := 10) (.slice A174 xs173.length c175) (k := ?_)
    refine WL.op (d := 11) (.int .i64 ((l10.length - r176.length : Nat) : Int)) (k := ?_)
    refine WL.op (d := 12) (.int .i64 (readEr r176)) (k := ?_)
    refine WL.nil ?_
    refine WX.seqN ?_
    refine WC.seq ?_
    refine WC.region ?_
    refine WL.op (d := 66) (.string ⟨(l10).toArray⟩) (k := ?_)
    refine WL.callG (d := 67) (f := 18) (args := #[.string ⟨(l10).toArray⟩]) (u23Read_c (l := l10) (by show List.length l10 ≤ _; first | omega | (simp; omega))) (k := fun e_ w185 h_ => ?_)
    obtain ⟨xs186, A187, c188, r189, rfl, ho190, hF191, hP192, k193, ol194⟩ := h_
    refine ⟨_, rfl, ?_⟩
    have ol195 := fun i h => Nat.le_trans K.size (ol194 i h)
    replace hb4 := k193.heap hb4 id
    replace ho177 := ho177.adds k193
    replace hF178 := hF178.adds k193
    replace K := K.trans (k193.any _)
    clear ol194
    have pl196 := hP192.len
    have ll197 : List.length l10 ≤ 1000000 := (by show List.length l10 ≤ _; first | omega | (simp; omega))
    refine WL.new (d := 13) (T := 43) #[.slice none 0 0, .int .i64 0, .int .i64 0] (k := fun b198 w199 g200 hb201 k202 => ?_)
    have z203 := Nat.le_trans K.size g200
    have n204 : b1 ≠ b198 := Nat.ne_of_lt (Nat.lt_of_lt_of_le (lt_of_heap hb4) g200)
    replace hb4 := k202.heap hb4 id
    replace ho177 := ho177.adds k202
    replace ho190 := ho190.adds k202
    replace hF178 := hF178.adds k202
    replace hF191 := hF191.adds k202
    replace K := K.trans (k202.any _)
    refine WL.store (v := .agg #[.slice A187 xs186.length c188, .int .i64 ((l10.length - r189.length : Nat) : Int), .int .i64 (readEr r189)]) (i := 0) (cs' := #[.slice A187 xs186.length c188, .int .i64 ((l10.length - r189.length : Nat) : Int), .int .i64 (readEr r189)]) hb201 (k := fun w205 hb206 k207 => ?_)
    replace hb4 := k207.heap hb4 n204
    replace ho177 := ho177.keeps k207 (fun i hi e => (ho177.offT hb201 (by decide)) (e ▸ hi))
    replace ho190 := ho190.keeps k207 (fun i hi e => (ho190.offT hb201 (by decide)) (e ▸ hi))
    replace hF178 := hF178.keepsT k207 hb201 (by decide)
    replace hF191 := hF191.keepsT k207 hb201 (by decide)
    replace K := K.trans' k207 (fun i hi e => absurd (e ▸ hi) (Nat.not_lt.2 z203))
    clear hb201
    refine WL.nil ?_
    refine WX.seqN ?_
    refine WC.seq ?_
    obtain ⟨hu1, hu2⟩ := Parsed.uniq hP179 hP192
    refine WC.region ?_
    refine WL.op (d := 68) (.slice A174 xs173.length c175) (k := ?_)
    refine WL.op (d := 69) (.pointer (some ⟨b198, 0, none⟩)) (k := ?_)
    refine WL.load (v := .slice A187 xs186.length c188) (ld1 (T := 22) (i := 0) hb206) (k := ?_)
    refine WL.callG (d := 71) (f := 19) (args := #[.slice A174 xs173.length c175, .slice A187 xs186.length c188]) (u23SameAll_c (cp := c175) (cq := c188) (ho177.sl ekCmd) (Fts.le hF178.fts (by omega)) (by omega) (ho190.sl ekCmd) (Fts.le hF191.fts (by omega)) (by omega)) (k := fun e_ w208 h_ => ⟨.bool (decide (List.map GCmd.p xs173 = List.map GCmd.p xs186)), h_.1, ?_⟩)
    have k209 := h_.2; clear h_
    replace hb4 := k209.heap hb4 id
    replace ho177 := ho177.adds k209
    replace ho190 := ho190.adds k209
    replace hb206 := k209.heap hb206 id
    replace hF178 := hF178.adds k209
    replace hF191 := hF191.adds k209
    replace K := K.trans (k209.any _)
    refine WL.op (d := 14) (.bool (decide (List.map GCmd.p xs173 = List.map GCmd.p xs186))) (k := ?_)
    refine WL.nil ?_
    refine WX.seqN ?_
    refine WC.seq ?_
    refine WC.region ?_
    refine WL.op (d := 72) (.bool true) (k := ?_)
    refine WL.op (d := 73) (.bool true) (k := ?_)
    refine WL.op (d := 74) (.bool (decide (List.map GCmd.p xs173 = List.map GCmd.p xs186))) (k := ?_)
    refine WL.op (d := 75) (.bool (decide (List.map GCmd.p xs173 = List.map GCmd.p xs186))) (k := ?_)
    refine WL.op (d := 76) (.bool (decide (List.map GCmd.p xs173 = List.map GCmd.p xs186))) (k := ?_)
    refine bsplit (decide (List.map GCmd.p xs173 = List.map GCmd.p xs186)) (fun h210 => ?_) (fun h210 => ?_)
    · have ph210 := of_decide_eq_true h210
      refine WL.rw (t := 76) (v := .bool true) (congrArg Value.bool h210) (k := ?_)
      refine WL.op (d := 77) (.int .i64 ((l10.length - r176.length : Nat) : Int)) (k := ?_)
      refine WL.op (d := 78) (.pointer (some ⟨b198, 1, none⟩)) (k := ?_)
      refine WL.load (v := .int .i64 ((l10.length - r189.length : Nat) : Int)) (ld1 (T := 3) (i := 1) hb206) (k := ?_)
      refine WL.op (d := 80) (.bool (((l10.length - r176.length : Nat) : Int) == ((l10.length - r189.length : Nat) : Int))) (k := ?_)
      refine WL.op (d := 81) (.bool (((l10.length - r176.length : Nat) : Int) == ((l10.length - r189.length : Nat) : Int))) (k := ?_)
      refine WL.op (d := 82) (.bool (((l10.length - r176.length : Nat) : Int) == ((l10.length - r189.length : Nat) : Int))) (k := ?_)
      refine bsplit (((l10.length - r176.length : Nat) : Int) == ((l10.length - r189.length : Nat) : Int)) (fun h211 => ?_) (fun h211 => ?_)
      · have ph211 := eq_of_beq h211
        refine WL.rw (t := 82) (v := .bool true) (congrArg Value.bool h211) (k := ?_)
        refine WL.op (d := 83) (.int .i64 (readEr r176)) (k := ?_)
        refine WL.op (d := 84) (.pointer (some ⟨b198, 2, none⟩)) (k := ?_)
        refine WL.load (v := .int .i64 (readEr r189)) (ld1 (T := 39) (i := 2) hb206) (k := ?_)
        refine WL.op (d := 86) (.bool ((readEr r176) == (readEr r189))) (k := ?_)
        refine WL.op (d := 87) (.bool ((readEr r176) == (readEr r189))) (k := ?_)
        refine WL.op (d := 6) (.bool ((readEr r176) == (readEr r189))) (k := ?_)
        refine WL.nil ?_
        refine WX.seqN ?_
        refine WC.ret ?_
        refine WX.ret (rs := [.tmp 6]) [.bool ((readEr r176) == (readEr r189))] (.bool ((readEr r176) == (readEr r189))) ⟨(by kernel_rfl), trivial⟩ (k := ?_)
        exact ⟨ret_bool (by rw [hu2]; exact beq_self_eq_true _), K⟩
      · have ph211 := ne_of_beq_false h211
        refine WL.rw (t := 82) (v := .bool false) (congrArg Value.bool h211) (k := ?_)
        refine WL.skip (d := 83) (k := ?_)
        refine WL.skip (d := 84) (k := ?_)
        refine WL.skip (d := 85) (k := ?_)
        refine WL.skip (d := 86) (k := ?_)
        refine WL.op (d := 87) (.bool false) (k := ?_)
        refine WL.op (d := 6) (.bool false) (k := ?_)
        refine WL.nil ?_
        refine WX.seqN ?_
        refine WC.ret ?_
        refine WX.ret (rs := [.tmp 6]) [.bool false] (.bool false) ⟨(by kernel_rfl), trivial⟩ (k := ?_)
        exact absurd (by first | exact hu1 | rw [hu2]) ph211
    · have ph210 := of_decide_eq_false h210
      refine WL.rw (t := 76) (v := .bool false) (congrArg Value.bool h210) (k := ?_)
      refine WL.skip (d := 77) (k := ?_)
      refine WL.skip (d := 78) (k := ?_)
      refine WL.skip (d := 79) (k := ?_)
      refine WL.skip (d := 80) (k := ?_)
      refine WL.op (d := 81) (.bool false) (k := ?_)
      refine WL.op (d := 82) (.bool false) (k := ?_)
      refine WL.skip (d := 83) (k := ?_)
      refine WL.skip (d := 84) (k := ?_)
      refine WL.skip (d := 85) (k := ?_)
      refine WL.skip (d := 86) (k := ?_)
      refine WL.op (d := 87) (.bool false) (k := ?_)
      refine WL.op (d := 6) (.bool false) (k := ?_)
      refine WL.nil ?_
      refine WX.seqN ?_
      refine WC.ret ?_
      refine WX.ret (rs := [.tmp 6]) [.bool false] (.bool false) ⟨(by kernel_rfl), trivial⟩ (k := ?_)
      exact absurd (by first | exact hu1 | rw [hu2]) ph210

set_option maxRecDepth 100000 in
set_option maxHeartbeats 4000000 in
theorem scriptAgain_any (t : List UInt8) (ht : t.length ≤ 9223372036854775807) (w : World) : Calls Try.prog 6 #[.string ⟨t.toArray⟩] w fun e w' => e = .returned (.bool true) ∧ Adds w w' := by
  have K : Keeps (fun _ => False) w w := Keeps.refl _ w
  refine Calls.start Try.func6 rfl (by kernel_rfl) ?_
  refine WC.seq ?_
  refine WC.region ?_
  refine WL.op (d := 2) (.bool false) (k := ?_)
  refine WL.nil ?_
  refine WX.seqN ?_
  refine WC.seq ?_
  refine WC.region ?_
  refine WL.callG (d := 8) (f := 7) (args := #[]) (l23awake_c w) (k := fun e_ w1 h_ => ⟨.bool true, h_.1, ?_⟩)
  have k2 := h_.2; clear h_
  replace K := K.trans (k2.any _)
  refine WL.op (d := 3) (.bool true) (k := ?_)
  refine WL.nil ?_
  refine WX.seqN ?_
  refine WC.seq ?_
  refine WC.region ?_
  refine WL.op (d := 9) (.string ⟨(t).toArray⟩) (k := ?_)
  refine WL.callG (d := 10) (f := 16) (args := #[.string ⟨(t).toArray⟩, .int .i64 80]) (l23short_c t 80 (by omega) (by show List.length t ≤ _; first | omega | (simp; omega)) w1) (k := fun e_ w3 h_ => ?_)
  obtain ⟨l4, hl5, rfl, k6⟩ := h_
  refine ⟨_, rfl, ?_⟩
  replace K := K.trans (k6.any _)
  refine WL.op (d := 0) (.string ⟨(l4).toArray⟩) (k := ?_)
  refine WL.nil ?_
  refine WX.seqN ?_
  refine WC.seq ?_
  refine WC.region ?_
  refine WL.op (d := 12) (.string ⟨(l4).toArray⟩) (k := ?_)
  refine WL.callG (d := 13) (f := 17) (args := #[.string ⟨(l4).toArray⟩]) (sRead_c (l := l4) (by show List.length l4 ≤ _; first | omega | (simp; omega))) (k := fun e_ w7 h_ => ?_)
  obtain ⟨xs8, A9, c10, r11, rfl, ho12, hF13, hP14, k15, ol16⟩ := h_
  refine ⟨_, rfl, ?_⟩
  have ol17 := fun i h => Nat.le_trans K.size (ol16 i h)
  replace K := K.trans (k15.any _)
  clear ol16
  have pl18 := hP14.len
  have ll19 : List.length l4 ≤ 1000000 := (by show List.length l4 ≤ _; first | omega | (simp; omega))
  refine WL.op (d := 11) (.tuple #[.slice A9 xs8.length c10, .int .i64 ((l4.length - r11.length : Nat) : Int), .int .i64 (readEr r11)]) (k := ?_)
  refine WL.op (d := 14) (.slice A9 xs8.length c10) (k := ?_)
  refine WL.op (d := 15) (.int .i64 ((l4.length - r11.length : Nat) : Int)) (k := ?_)
  refine WL.op (d := 16) (.int .i64 (readEr r11)) (k := ?_)
  refine WL.op (d := 4) (.slice A9 xs8.length c10) (k := ?_)
  refine WL.op (d := 5) (.int .i64 ((l4.length - r11.length : Nat) : Int)) (k := ?_)
  refine WL.op (d := 6) (.int .i64 (readEr r11)) (k := ?_)
  refine WL.nil ?_
  refine WX.seqN ?_
  refine WC.seq ?_
  refine WC.seq ?_
  refine WC.region ?_
  refine WL.op (d := 17) (.int .i64 ((l4.length - r11.length : Nat) : Int)) (k := ?_)
  refine WL.op (d := 18) (.bool (decide (((l4.length - r11.length : Nat) : Int) < 0))) (k := ?_)
  refine WL.op (d := 19) (.bool (decide (((l4.length - r11.length : Nat) : Int) < 0))) (k := ?_)
  refine bsplit (decide (((l4.length - r11.length : Nat) : Int) < 0)) (fun h20 => ?_) (fun h20 => ?_)
  · have ph20 := of_decide_eq_true h20
    refine WL.rw (t := 19) (v := .bool true) (congrArg Value.bool h20) (k := ?_)
    refine WL.skip (d := 20) (k := ?_)
    refine WL.skip (d := 21) (k := ?_)
    refine WL.skip (d := 22) (k := ?_)
    refine WL.skip (d := 23) (k := ?_)
    refine WL.op (d := 24) (.bool true) (k := ?_)
    refine WL.op (d := 25) (.bool true) (k := ?_)
    refine WL.skip (d := 26) (k := ?_)
    refine WL.skip (d := 27) (k := ?_)
    refine WL.skip (d := 28) (k := ?_)
    refine WL.skip (d := 29) (k := ?_)
    refine WL.skip (d := 30) (k := ?_)
    refine WL.skip (d := 31) (k := ?_)
    refine WL.skip (d := 32) (k := ?_)
    refine WL.op (d := 33) (.bool true) (k := ?_)
    refine WL.nil ?_
    refine WX.seqN ?_
    refine WC.condT (k := ?_)
    refine WC.seq ?_
    refine WC.region ?_
    refine WL.op (d := 2) (.bool false) (k := ?_)
    refine WL.nil ?_
    refine WX.seqN ?_
    refine WC.ret ?_
    refine WX.seqR ?_
    refine WX.ret (rs := [.tmp 2]) [.bool false] (.bool false) ⟨(by kernel_rfl), trivial⟩ (k := ?_)
    exfalso; omega
  · have ph20 := of_decide_eq_false h20
    refine WL.rw (t := 19) (v := .bool false) (congrArg Value.bool h20) (k := ?_)
    refine WL.op (d := 20) (.int .i64 ((l4.length - r11.length : Nat) : Int)) (k := ?_)
    refine WL.op (d := 21) (.string ⟨(l4).toArray⟩) (k := ?_)
    refine WL.op (d := 22) (.int .i64 (l4.length : Int)) (k := ?_)
    refine WL.op (d := 23) (.bool (decide (((l4.length - r11.length : Nat) : Int) > (l4.length : Int)))) (k := ?_)
    refine WL.op (d := 24) (.bool (decide (((l4.length - r11.length : Nat) : Int) > (l4.length : Int)))) (k := ?_)
    refine WL.op (d := 25) (.bool (decide (((l4.length - r11.length : Nat) : Int) > (l4.length : Int)))) (k := ?_)
    refine bsplit (decide (((l4.length - r11.length : Nat) : Int) > (l4.length : Int))) (fun h21 => ?_) (fun h21 => ?_)
    · have ph21 := of_decide_eq_true h21
      refine WL.rw (t := 25) (v := .bool true) (congrArg Value.bool h21) (k := ?_)
      refine WL.skip (d := 26) (k := ?_)
      refine WL.skip (d := 27) (k := ?_)
      refine WL.skip (d := 28) (k := ?_)
      refine WL.skip (d := 29) (k := ?_)
      refine WL.skip (d := 30) (k := ?_)
      refine WL.skip (d := 31) (k := ?_)
      refine WL.skip (d := 32) (k := ?_)
      refine WL.op (d := 33) (.bool true) (k := ?_)
      refine WL.nil ?_
      refine WX.seqN ?_
      refine WC.condT (k := ?_)
      refine WC.seq ?_
      refine WC.region ?_
      refine WL.op (d := 2) (.bool false) (k := ?_)
      refine WL.nil ?_
      refine WX.seqN ?_
      refine WC.ret ?_
      refine WX.seqR ?_
      refine WX.ret (rs := [.tmp 2]) [.bool false] (.bool false) ⟨(by kernel_rfl), trivial⟩ (k := ?_)
      exfalso; omega
    · have ph21 := of_decide_eq_false h21
      refine WL.rw (t := 25) (v := .bool false) (congrArg Value.bool h21) (k := ?_)
      refine WL.op (d := 26) (.int .i64 ((l4.length - r11.length : Nat) : Int)) (k := ?_)
      refine WL.op (d := 27) (.string ⟨(l4).toArray⟩) (k := ?_)
      refine WL.op (d := 28) (.int .i64 (l4.length : Int)) (k := ?_)
      refine WL.op (d := 29) (.bool (((l4.length - r11.length : Nat) : Int) == (l4.length : Int))) (k := ?_)
      refine WL.op (d := 30) (.int .i64 (readEr r11)) (k := ?_)
      refine WL.op (d := 31) (.bool ((readEr r11) == 0)) (k := ?_)
      refine WL.opE (d := 32) (.bool (!((((l4.length - r11.length : Nat) : Int) == (l4.length : Int)) == ((readEr r11) == 0)))) (v := .bool false) (congrArg Value.bool (again_iff hP14)) (k := ?_)
      refine WL.op (d := 33) (.bool false) (k := ?_)
      refine WL.nil ?_
      refine WX.seqN ?_
      refine WC.condF (k := ?_)
      refine WC.skip ?_
      refine WX.seqN ?_
      refine WC.seq ?_
      refine WC.seq ?_
      refine WC.region ?_
      refine WL.op (d := 7) (.int .i64 0) (k := ?_)
      refine WL.nil ?_
      refine WX.seqN ?_
      refine WC.block ?_
      refine WC.loop (ι := Int) (fun (i : Int) => [(0, .string ⟨(l4).toArray⟩), (8, .bool true), (3, .bool true), (9, .string ⟨(t).toArray⟩), (10, .string ⟨(l4).toArray⟩), (12, .string ⟨(l4).toArray⟩), (13, .tuple #[.slice A9 xs8.length c10, .int .i64 ((l4.length - r11.length : Nat) : Int), .int .i64 (readEr r11)]), (11, .tuple #[.slice A9 xs8.length c10, .int .i64 ((l4.length - r11.length : Nat) : Int), .int .i64 (readEr r11)]), (14, .slice A9 xs8.length c10), (15, .int .i64 ((l4.length - r11.length : Nat) : Int)), (16, .int .i64 (readEr r11)), (4, .slice A9 xs8.length c10), (5, .int .i64 ((l4.length - r11.length : Nat) : Int)), (6, .int .i64 (readEr r11)), (17, .int .i64 ((l4.length - r11.length : Nat) : Int)), (18, .bool (decide (((l4.length - r11.length : Nat) : Int) < 0))), (19, .bool false), (20, .int .i64 ((l4.length - r11.length : Nat) : Int)), (21, .string ⟨(l4).toArray⟩), (22, .int .i64 (l4.length : Int)), (23, .bool (decide (((l4.length - r11.length : Nat) : Int) > (l4.length : Int)))), (24, .bool (decide (((l4.length - r11.length : Nat) : Int) > (l4.length : Int)))), (25, .bool false), (26, .int .i64 ((l4.length - r11.length : Nat) : Int)), (27, .string ⟨(l4).toArray⟩), (28, .int .i64 (l4.length : Int)), (29, .bool (((l4.length - r11.length : Nat) : Int) == (l4.length : Int))), (30, .int .i64 (readEr r11)), (31, .bool ((readEr r11) == 0)), (32, .bool false), (33, .bool false), (7, .int .i64 i)]) (fun (i : Int) (w_ : World) => (Keeps (fun _ => False) w w_) ∧ (OwAt cmdC 15 32 A9 c10 xs8 w_) ∧ (∀ i, blk A9 = some i → w.heap.size ≤ i) ∧ (0 ≤ i) ∧ (i ≤ xs8.length) ∧ (FtsO 64 xs8 w_)) (fun (i : Int) => (xs8.length - i).toNat) 0 ⟨(by kernel_rfl), (by kernel_rfl), (by kernel_rfl), (by kernel_rfl), (by kernel_rfl), (by kernel_rfl), (by kernel_rfl), (by kernel_rfl), (by kernel_rfl), (by kernel_rfl), (by kernel_rfl), (by kernel_rfl), (by kernel_rfl), (by kernel_rfl), (by kernel_rfl), (by kernel_rfl), (by kernel_rfl), (by kernel_rfl), (by kernel_rfl), (by kernel_rfl), (by kernel_rfl), (by kernel_rfl), (by kernel_rfl), (by kernel_rfl), (by kernel_rfl), (by kernel_rfl), (by kernel_rfl), (by kernel_rfl), (by kernel_rfl), (by kernel_rfl), (by kernel_rfl), (by kernel_rfl), trivial⟩ ⟨K, ho12, ol17, Int.le_refl 0, (by omega), hF13⟩ ?_
      rintro i w22 ⟨K, hb23, ol24, i0, i1, hFx⟩
      refine WC.seq ?_
      refine WC.seq ?_
      refine WC.region ?_
      refine WL.op (d := 34) (.int .i64 i) (k := ?_)
      refine WL.op (d := 35) (.slice A9 xs8.length c10) (k := ?_)
      refine WL.op (d := 36) (.int .i64 (xs8.length : Int)) (k := ?_)
      refine WL.op (d := 37) (.bool (decide (i < (xs8.length : Int)))) (k := ?_)
      refine WL.nil ?_
      refine WX.seqN ?_
      refine WC.cond (b := decide (i < (xs8.length : Int))) (ht := fun h25 => ?_) (hf := fun h25 => ?_)
      · have ph25 := of_decide_eq_true h25
        refine WC.skip ?_
        refine WX.seqN ?_
        refine WC.seq ?_
        refine WC.block ?_
        refine WC.seq ?_
        refine WC.region ?_
        refine WL.op (d := 40) (.slice A9 xs8.length c10) (k := ?_)
        refine WL.op (d := 41) (.int .i64 i) (k := ?_)
        obtain ⟨b26, o27, r28, hr29, hA30, he31⟩ := SlAt.at (hb23.sl ekCmd) (i := i) (by omega) (by omega)
        refine WL.rw (t := 40) (v := .slice (some ⟨b26, o27, none⟩) xs8.length c10) (congrArg (fun a => Value.slice a xs8.length c10) hA30) (k := ?_)
        obtain ⟨hs32, hc33, hl34⟩ := fts_mem hFx.fts hr29
        refine WL.idx (T := 22) (E := 32) (m := 15) (b := b26) (o := o27) (len := xs8.length) (cap := c10) (i := i) (kk := .i64) (d := 42) (by omega) (by omega) (k := ?_)
        refine WL.rw (t := 40) (v := .slice A9 xs8.length c10) (congrArg (fun a => Value.slice a xs8.length c10) (Eq.symm hA30)) (k := ?_)
        refine WL.load (v := GCmd.val r28) (he31.ldW (T := 32)) (k := ?_)
        refine WL.callG (d := 44) (f := 9) (args := #[GCmd.val r28]) (sCheck_c (c := r28) hs32 (by first | omega | simp)) (k := fun e_ w35 h_ => ⟨.bool (cokB r28.p), h_.1, ?_⟩)
        have k36 := h_.2; clear h_
        replace hb23 := hb23.adds k36
        replace he31 := he31.adds k36
        replace hs32 := hs32.adds k36
        replace hFx := hFx.adds k36
        replace K := K.trans (k36.any _)
        refine WL.op (d := 45) (.bool (!(cokB r28.p))) (k := ?_)
        refine WL.nil ?_
        refine WX.seqN ?_
        refine WC.cond (b := !(cokB r28.p)) (ht := fun h37 => ?_) (hf := fun h37 => ?_)
        · have h38 : (cokB r28.p) = false := Bool.not_inj (y := false) h37
          have ph38 := cok_f h38
          refine WC.seq ?_
          refine WC.region ?_
          refine WL.op (d := 2) (.bool false) (k := ?_)
          refine WL.nil ?_
          refine WX.seqN ?_
          refine WC.ret ?_
          refine WX.blockR ?_
          refine WX.seqR ?_
          refine WX.seqR ?_
          refine WX.blockR ?_
          refine WX.seqR ?_
          refine WX.ret (rs := [.tmp 2]) [.bool false] (.bool false) ⟨(by kernel_rfl), trivial⟩ (k := ?_)
          exact absurd (hP14.1 _ (List.mem_map.2 ⟨_, List.mem_of_getElem? hr29, rfl⟩)) ph38
        · have h39 : (cokB r28.p) = true := Bool.not_inj (y := true) h37
          have ph39 := cok_t h39
          refine WC.skip ?_
          refine WX.blockN ?_
          refine WX.seqN ?_
          refine WC.region ?_
          refine WL.op (d := 38) (.int .i64 i) (k := ?_)
          refine WL.opE (d := 39) (.int .i64 (IntKind.i64.wrap (i + 1))) (v := .int .i64 (i + 1)) (congrArg (Value.int .i64) (IntWalk.i64_in _ (by omega))) (k := ?_)
          refine WL.op (d := 7) (.int .i64 (i + 1)) (k := ?_)
          refine WL.nil ?_
          refine WX.round (i + 1) (by show (xs8.length - (i + 1)).toNat < (xs8.length - i).toNat; omega) ⟨(by kernel_rfl), (by kernel_rfl), (by kernel_rfl), (by kernel_rfl), (by kernel_rfl), (by kernel_rfl), (by kernel_rfl), (by kernel_rfl), (by kernel_rfl), (by kernel_rfl), (by kernel_rfl), (by kernel_rfl), (by kernel_rfl), (by kernel_rfl), (by kernel_rfl), (by kernel_rfl), (by kernel_rfl), (by kernel_rfl), (by kernel_rfl), (by kernel_rfl), (by kernel_rfl), (by kernel_rfl), (by kernel_rfl), (by kernel_rfl), (by kernel_rfl), (by kernel_rfl), (by kernel_rfl), (by kernel_rfl), (by kernel_rfl), (by kernel_rfl), (by kernel_rfl), (by kernel_rfl), trivial⟩ ⟨K, hb23, ol24, (by omega), (by omega), hFx⟩
      · have ph25 := of_decide_eq_false h25
        refine WC.exit ?_
        refine WX.seqE ?_
        refine WX.seqE ?_
        refine WX.blockE ?_
        refine WX.seqN ?_
        refine WC.seq ?_
        refine WC.quiet (k := ?_)
        refine WQ.op (d := 46) (.bool true) (k := ?_)
        refine WQ.op (d := 47) (.bool true) (k := ?_)
        refine WQ.op (d := 48) (.slice A9 xs8.length c10) (k := ?_)
        refine WQ.callG (d := 49) (f := 13) (args := #[.slice A9 xs8.length c10]) (v := .string ⟨(bytesC (List.map GCmd.p xs8)).toArray⟩) (fun w_ k_ => sBytes_c (cp := c10) ((hb23.sl ekCmd).adds k_) ((Fts.le hFx.fts (by omega)).adds k_) (by omega)) addsR (k := ?_)
        refine WQ.op (d := 50) (.string ⟨(l4).toArray⟩) (k := ?_)
        refine WQ.op (d := 51) (.int .i64 ((l4.length - r11.length : Nat) : Int)) (k := ?_)
        refine WQ.cut (d := 52) (vx := .string ⟨(l4).toArray⟩) (lo' := none) (hi' := (some (.int .i64 ((l4.length - r11.length : Nat) : Int)))) (mx' := none) (v := .string ⟨(List.take (l4.length - r11.length : Nat) l4).toArray⟩) (fun _ => run_cut (P := Try.prog) (w := _) (lo := none) (hi := (some (.int .i64 ((l4.length - r11.length : Nat) : Int)))) (T := 9) (a := 0) (b := (l4.length - r11.length : Nat)) (l := l4) (by kernel_rfl) (.inl ⟨rfl, rfl⟩) (.inr ⟨_, _, rfl, by omega⟩) (by first | omega | (simp; omega)) (by first | omega | (simp; omega))) (k := ?_)
        refine WQ.opE (d := 53) (.bool (ByteArray.toList ⟨(bytesC (List.map GCmd.p xs8)).toArray⟩ == ByteArray.toList ⟨(List.take (l4.length - r11.length : Nat) l4).toArray⟩)) (v := .bool (decide (bytesC (List.map GCmd.p xs8) = List.take (l4.length - r11.length : Nat) l4))) (str_eql _ _) (k := ?_)
        refine WQ.op (d := 54) (.bool (decide (bytesC (List.map GCmd.p xs8) = List.take (l4.length - r11.length : Nat) l4))) (k := ?_)
        refine WQ.op (d := 2) (.bool (decide (bytesC (List.map GCmd.p xs8) = List.take (l4.length - r11.length : Nat) l4))) (k := ?_)
        refine WQ.nilX (fun w40 k41 => ?_)
        replace hb23 := hb23.adds k41
        replace hFx := hFx.adds k41
        replace K := K.trans (k41.any _)
        refine WX.seqN ?_
        refine WC.ret ?_
        refine WX.ret (rs := [.tmp 2]) [.bool (decide (bytesC (List.map GCmd.p xs8) = List.take (l4.length - r11.length : Nat) l4))] (.bool (decide (bytesC (List.map GCmd.p xs8) = List.take (l4.length - r11.length : Nat) l4))) ⟨(by kernel_rfl), trivial⟩ (k := ?_)
        exact ⟨ret_bool (decide_eq_true (again_end hP14)), K⟩

end Go.Proofs.Ytfpdfjbooalgjaa
