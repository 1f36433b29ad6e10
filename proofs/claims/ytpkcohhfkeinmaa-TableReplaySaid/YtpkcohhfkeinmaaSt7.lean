/- Replay. -/
import Derived.Test.YtpkcohhfkeinmaaSt6
namespace Go.Proofs.Ytpkcohhfkeinmaa
open Go.RowKit
set_option linter.unusedVariables false
set_option linter.unusedSimpArgs false

set_option maxRecDepth 100000 in
set_option maxHeartbeats 4000000 in
theorem tReplay_c {A L : Option Addr} {cp lc : Nat} {rows : List GRow} {md : Int} {ls : List (List UInt8)} {w : World} (hA : SlAt rowC 6 53 A rows w) (hc : rows.length ≤ cp) (hn : rows.length ≤ 100000) (hL : SlAt strC 1 9 L ls w) (hl : ls.length ≤ 1000000) (hm_ : ∀ s ∈ ls, s.length ≤ 1000000) : Calls Try.prog 32 #[.agg #[.slice A rows.length cp, .int .i64 md], .slice L ls.length lc] w (RepRes (replayT ⟨rows, md⟩ ls) w) := by
  have K : Keeps (fun _ => False) w w := Keeps.refl _ w
  refine Calls.start Try.func32 rfl (by kernel_rfl) ?_
  refine WC.seq ?_
  refine WC.region ?_
  refine WL.new (d := 2) (T := 24) #[.slice A rows.length cp, .int .i64 md] (k := fun b1 w2 g3 hb4 k5 => ?_)
  have z6 := Nat.le_trans K.size g3
  replace K := K.trans (k5.any _)
  refine WL.new (d := 4) (T := 24) #[.slice none 0 0, .int .i64 0] (k := fun b7 w8 g9 hb10 k11 => ?_)
  have z12 := Nat.le_trans K.size g9
  have n13 : b1 ≠ b7 := Nat.ne_of_lt (Nat.lt_of_lt_of_le (lt_of_heap hb4) g9)
  replace hb4 := k11.heap hb4 id
  replace K := K.trans (k11.any _)
  refine WL.op (d := 5) (.int .i64 0) (k := ?_)
  refine WL.nil ?_
  refine WX.seqN ?_
  refine WC.scope ?_
  refine WC.seq ?_
  refine WC.region ?_
  refine WL.op (d := 13) (.pointer (some ⟨b1, 0, none⟩)) (k := ?_)
  refine WL.load (v := .slice A rows.length cp) (ld1 (T := 22) (i := 0) hb4) (k := ?_)
  refine WL.callG (d := 15) (f := 73) (args := #[.slice A rows.length cp]) (sClone_c (cp := cp) (hA.adds K) (by omega)) (k := fun e_ w14 h_ => ?_)
  obtain ⟨A15, c16, rfl, ho17, k18, ol19⟩ := h_
  refine ⟨_, rfl, ?_⟩
  have ol20 := fun i h => Nat.le_trans K.size (ol19 i h)
  replace hb4 := k18.heap hb4 id
  replace hb10 := k18.heap hb10 id
  replace K := K.trans (k18.any _)
  clear ol19
  refine WL.op (d := 16) (.pointer (some ⟨b1, 0, none⟩)) (k := ?_)
  refine WL.store (v := .slice A15 ((rows).length) c16) (i := 0) (cs' := #[.slice A15 ((rows).length) c16, .int .i64 md]) hb4 (k := fun w21 hb22 k23 => ?_)
  replace hb10 := k23.heap hb10 (Ne.symm n13)
  replace ho17 := ho17.keeps k23 (fun i hi e => (ho17.offT hb4 (by decide)) (e ▸ hi))
  replace K := K.trans' k23 (fun i hi e => absurd (e ▸ hi) (Nat.not_lt.2 z6))
  clear hb4
  refine WL.nil ?_
  refine WX.seqN ?_
  refine WC.seq ?_
  refine WC.region ?_
  refine WL.op (d := 6) (.int .i64 0) (k := ?_)
  refine WL.nil ?_
  refine WX.seqN ?_
  refine WC.seq ?_
  refine WC.label ?_
  refine WX.seqN ?_
  refine WC.seq ?_
  refine WC.seq ?_
  refine WC.region ?_
  refine WL.op (d := 17) (.slice L ls.length lc) (k := ?_)
  refine WL.op (d := 18) (.int .i64 (ls.length : Int)) (k := ?_)
  refine WL.op (d := 19) (.int .i64 0) (k := ?_)
  refine WL.nil ?_
  refine WX.seqN ?_
  refine WC.block ?_
  refine WC.loop (ι := Int × GTable × (Option Addr) × Nat) (fun (⟨i, ti, Ao, co⟩ : Int × GTable × (Option Addr) × Nat) => [(0, .agg #[.slice A rows.length cp, .int .i64 md]), (1, .slice L ls.length lc), (2, .pointer (some ⟨b1, 0, none⟩)), (4, .pointer (some ⟨b7, 0, none⟩)), (5, .int .i64 0), (13, .pointer (some ⟨b1, 0, none⟩)), (14, .slice A rows.length cp), (15, .slice A15 ((rows).length) c16), (16, .pointer (some ⟨b1, 0, none⟩)), (17, .slice L ls.length lc), (18, .int .i64 (ls.length : Int)), (6, .int .i64 i), (19, .int .i64 i)]) (fun (⟨i, ti, Ao, co⟩ : Int × GTable × (Option Addr) × Nat) (w_ : World) => (Keeps (fun _ => False) w w_) ∧ (w_.heap[b1]? = some (.cells #[.slice Ao ti.rows.length co, .int .i64 ti.mode] 24 (0, 0))) ∧ (w_.heap[b7]? = some (.cells #[.slice none 0 0, .int .i64 0] 24 (0, 0))) ∧ (SlAt rowC 6 53 Ao ti.rows w_) ∧ (0 ≤ i) ∧ (i ≤ ls.length) ∧ (ti.rows.length ≤ co) ∧ (ti.rows.length ≤ 100000) ∧ (repI ⟨rows, md⟩ ti ls i) ∧ (ti.rows ≠ [] → ∀ p, Ao = some p → ¬ p.block = b7)) (fun (⟨i, ti, Ao, co⟩ : Int × GTable × (Option Addr) × Nat) => (ls.length - i).toNat) (0, ⟨rows, md⟩, A15, c16) ⟨(by kernel_rfl), (by kernel_rfl), (by kernel_rfl), (by kernel_rfl), (by kernel_rfl), (by kernel_rfl), (by kernel_rfl), (by kernel_rfl), (by kernel_rfl), (by kernel_rfl), (by kernel_rfl), (by kernel_rfl), (by kernel_rfl), trivial⟩ ⟨K, hb22, hb10, (ho17.sl ekRow), Int.le_refl 0, (by omega), (SlAt.cell ho17), hn, repI_zero _ _, (OwAt.off_sl ho17 hb10 (by decide))⟩ ?_
  rintro ⟨i, ti, Ao, co⟩ w24 ⟨K, hb25, hb26, hb27, i0, i1, hcp, hti, hrep, hoff⟩
  refine WC.seq ?_
  refine WC.region ?_
  refine WL.op (d := 20) (.bool (decide (i < (ls.length : Int)))) (k := ?_)
  refine WL.nil ?_
  refine WX.seqN ?_
  refine WC.seq ?_
  refine WC.cond (b := decide (i < (ls.length : Int))) (ht := fun h28 => ?_) (hf := fun h28 => ?_)
  · have ph28 := of_decide_eq_true h28
    refine WC.skip ?_
    refine WX.seqN ?_
    refine WC.seq ?_
    refine WC.block ?_
    refine WC.seq ?_
    refine WC.region ?_
    obtain ⟨b29, o30, r31, hr32, hA33, he34⟩ := SlAt.at hL (i := i) (by omega) (by omega)
    refine WL.rw (t := 17) (v := .slice (some ⟨b29, o30, none⟩) ls.length lc) (congrArg (fun a => Value.slice a ls.length lc) hA33) (k := ?_)
    have slr31 := hm_ r31 (List.mem_of_getElem? hr32)
    refine WL.idx (T := 57) (E := 9) (m := 1) (b := b29) (o := o30) (len := ls.length) (cap := lc) (i := i) (kk := .i64) (d := 21) (by omega) (by omega) (k := ?_)
    refine WL.rw (t := 17) (v := .slice L ls.length lc) (congrArg (fun a => Value.slice a ls.length lc) (Eq.symm hA33)) (k := ?_)
    refine WL.load (v := .string ⟨(r31).toArray⟩) ((he34.adds K).ld0 (T := 9)) (k := ?_)
    refine WL.op (d := 8) (.string ⟨(r31).toArray⟩) (k := ?_)
    refine WL.nil ?_
    refine WX.seqN ?_
    refine WC.seq ?_
    refine WC.region ?_
    refine WL.op (d := 24) (.string ⟨(r31).toArray⟩) (k := ?_)
    refine WL.callG (d := 25) (f := 47) (args := #[.string ⟨(r31).toArray⟩]) (pRead_v r31 (by show List.length r31 ≤ _; first | omega | (simp; omega)) w24) (k := fun e_ w35 h_ => ⟨.tuple #[GOp.val (opVal (opOf r31)), .int .i64 (opErr (opOf r31))], h_.1, ?_⟩)
    have k36 := h_.2; clear h_
    replace hb25 := k36.heap hb25 id
    replace hb26 := k36.heap hb26 id
    replace hb27 := hb27.adds k36
    replace K := K.trans (k36.any _)
    refine WL.op (d := 23) (.tuple #[GOp.val (opVal (opOf r31)), .int .i64 (opErr (opOf r31))]) (k := ?_)
    refine WL.op (d := 26) (GOp.val (opVal (opOf r31))) (k := ?_)
    refine WL.op (d := 27) (.int .i64 (opErr (opOf r31))) (k := ?_)
    refine WL.new (d := 9) (T := 46) #[.int .i64 0, .int .i64 0, .int .i64 0, .int .i64 0, .int .i64 0, .int .i64 0, .bool false, .int .i64 0, .int .i64 0, .int .i64 0] (k := fun b37 w38 g39 hb40 k41 => ?_)
    have z42 := Nat.le_trans K.size g39
    have n43 : b1 ≠ b37 := Nat.ne_of_lt (Nat.lt_of_lt_of_le (lt_of_heap hb25) g39)
    have n44 : b7 ≠ b37 := Nat.ne_of_lt (Nat.lt_of_lt_of_le (lt_of_heap hb26) g39)
    have n45 := SlAt.off_new hb27 g39
    replace hb25 := k41.heap hb25 id
    replace hb26 := k41.heap hb26 id
    replace hb27 := hb27.adds k41
    replace K := K.trans (k41.any _)
    refine WL.store (v := GOp.val (opVal (opOf r31))) (i := 0) (cs' := (Value.cells (GOp.val (opVal (opOf r31))))) hb40 (k := fun w46 hb47 k48 => ?_)
    replace hb25 := k48.heap hb25 n43
    replace hb26 := k48.heap hb26 n44
    replace hb27 := hb27.keeps k48 n45
    replace K := K.trans' k48 (fun i hi e => absurd (e ▸ hi) (Nat.not_lt.2 z42))
    clear hb40
    refine WL.op (d := 10) (.int .i64 (opErr (opOf r31))) (k := ?_)
    refine WL.nil ?_
    refine WX.seqN ?_
    refine WC.seq ?_
    refine WC.region ?_
    refine WL.load (v := .agg #[.slice Ao ti.rows.length co, .int .i64 ti.mode]) (ldN (T := 24) (i := 0) (m := 2) (l := [.slice Ao ti.rows.length co, .int .i64 ti.mode]) hb25) (k := ?_)
    refine WL.load (v := GOp.val (opVal (opOf r31))) (ldN (T := 46) (i := 0) (m := 10) (l := (Value.cells (GOp.val (opVal (opOf r31)))).toList) hb47) (k := ?_)
    refine WL.callG (d := 31) (f := 30) (args := #[.agg #[.slice Ao ti.rows.length co, .int .i64 ti.mode], GOp.val (opVal (opOf r31))]) (tApply_c (cp := co) hb27 (by omega) (by omega) ti.mode (opVal (opOf r31))) (k := fun e_ w49 h_ => ?_)
    obtain ⟨A50, c51, rfl, ho52, k53, ol54⟩ := h_
    refine ⟨_, rfl, ?_⟩
    have ol55 := fun i h => Nat.le_trans K.size (ol54 i h)
    replace hb25 := k53.heap hb25 id
    replace hb26 := k53.heap hb26 id
    replace hb27 := hb27.adds k53
    replace hb47 := k53.heap hb47 id
    replace K := K.trans (k53.any _)
    clear ol54
    have al56 := applyT_len ti (opVal (opOf r31))
    refine WL.op (d := 28) (.tuple #[.agg #[.slice A50 (((applyT ti (opVal (opOf r31))).1.rows).length) c51, .int .i64 ((applyT ti (opVal (opOf r31))).1.mode)], .int .i64 ((applyT ti (opVal (opOf r31))).2)]) (k := ?_)
    refine WL.op (d := 32) (.agg #[.slice A50 (((applyT ti (opVal (opOf r31))).1.rows).length) c51, .int .i64 ((applyT ti (opVal (opOf r31))).1.mode)]) (k := ?_)
    refine WL.op (d := 33) (.int .i64 ((applyT ti (opVal (opOf r31))).2)) (k := ?_)
    refine WL.new (d := 11) (T := 24) #[.slice none 0 0, .int .i64 0] (k := fun b57 w58 g59 hb60 k61 => ?_)
    have z62 := Nat.le_trans K.size g59
    have n63 : b1 ≠ b57 := Nat.ne_of_lt (Nat.lt_of_lt_of_le (lt_of_heap hb25) g59)
    have n64 : b7 ≠ b57 := Nat.ne_of_lt (Nat.lt_of_lt_of_le (lt_of_heap hb26) g59)
    have n65 := SlAt.off_new hb27 g59
    have n66 : b37 ≠ b57 := Nat.ne_of_lt (Nat.lt_of_lt_of_le (lt_of_heap hb47) g59)
    replace hb25 := k61.heap hb25 id
    replace hb26 := k61.heap hb26 id
    replace hb27 := hb27.adds k61
    replace hb47 := k61.heap hb47 id
    replace ho52 := ho52.adds k61
    replace K := K.trans (k61.any _)
    refine WL.store (v := .agg #[.slice A50 (((applyT ti (opVal (opOf r31))).1.rows).length) c51, .int .i64 ((applyT ti (opVal (opOf r31))).1.mode)]) (i := 0) (cs' := #[.slice A50 (((applyT ti (opVal (opOf r31))).1.rows).length) c51, .int .i64 ((applyT ti (opVal (opOf r31))).1.mode)]) hb60 (k := fun w67 hb68 k69 => ?_)
    replace hb25 := k69.heap hb25 n63
    replace hb26 := k69.heap hb26 n64
    replace hb27 := hb27.keeps k69 n65
    replace hb47 := k69.heap hb47 n66
    replace ho52 := ho52.keeps k69 (fun i hi e => (ho52.offT hb60 (by decide)) (e ▸ hi))
    replace K := K.trans' k69 (fun i hi e => absurd (e ▸ hi) (Nat.not_lt.2 z62))
    clear hb60
    refine WL.op (d := 12) (.int .i64 ((applyT ti (opVal (opOf r31))).2)) (k := ?_)
    refine WL.nil ?_
    refine WX.seqN ?_
    refine WC.seq ?_
    refine WC.seq ?_
    refine WC.region ?_
    refine WL.op (d := 34) (.int .i64 (opErr (opOf r31))) (k := ?_)
    refine WL.op (d := 35) (.bool ((opErr (opOf r31)) != 0)) (k := ?_)
    refine WL.op (d := 36) (.bool ((opErr (opOf r31)) != 0)) (k := ?_)
    refine bsplit ((opErr (opOf r31)) != 0) (fun h70 => ?_) (fun h70 => ?_)
    · have ph70 := bne_iff_ne.1 h70
      refine WL.rw (t := 36) (v := .bool true) (congrArg Value.bool h70) (k := ?_)
      refine WL.skip (d := 37) (k := ?_)
      refine WL.skip (d := 38) (k := ?_)
      refine WL.op (d := 39) (.bool true) (k := ?_)
      refine WL.nil ?_
      refine WX.seqN ?_
      refine WC.condT (k := ?_)
      refine WC.exit ?_
      refine WX.seqE ?_
      refine WX.blockO (by kernel_rfl) ?_
      refine WX.seqE ?_
      refine WX.seqE ?_
      refine WX.blockE ?_
      refine WX.seqN ?_
      refine WC.seq ?_
      refine WC.region ?_
      refine WL.load (v := .agg #[.slice Ao ti.rows.length co, .int .i64 ti.mode]) (ldN (T := 24) (i := 0) (m := 2) (l := [.slice Ao ti.rows.length co, .int .i64 ti.mode]) hb25) (k := ?_)
      refine WL.op (d := 45) (.int .i64 i) (k := ?_)
      refine WL.store (v := .agg #[.slice Ao ti.rows.length co, .int .i64 ti.mode]) (i := 0) (cs' := #[.slice Ao ti.rows.length co, .int .i64 ti.mode]) hb26 (k := fun w71 hb72 k73 => ?_)
      replace hb25 := k73.heap hb25 n13
      replace hb27 := hb27.keeps k73 hoff
      replace hb47 := k73.heap hb47 (Ne.symm n44)
      replace ho52 := ho52.keeps k73 (fun i hi e => (ho52.offT hb26 (by decide)) (e ▸ hi))
      replace hb68 := k73.heap hb68 (Ne.symm n64)
      replace K := K.trans' k73 (fun i hi e => absurd (e ▸ hi) (Nat.not_lt.2 z12))
      clear hb26
      refine WL.op (d := 5) (.int .i64 i) (k := ?_)
      refine WL.nil ?_
      refine WX.seqN ?_
      refine WC.ret ?_
      refine WX.scopeR ?_
      refine WX.ret (rs := [.cell 4 24, .tmp 5]) [.agg #[.slice Ao ti.rows.length co, .int .i64 ti.mode], .int .i64 i] (.tuple #[.agg #[.slice Ao ti.rows.length co, .int .i64 ti.mode], .int .i64 i]) ⟨⟨_, (by kernel_rfl), ldN (T := 24) (i := 0) (m := 2) (l := [.slice Ao ti.rows.length co, .int .i64 ti.mode]) hb72⟩, (by kernel_rfl), trivial⟩ (k := ?_)
      exact RepRes.mk (repI_stop i0 hrep hr32 (fun h => ph70 h.1)) (by omega) rfl hb27 K
    · have ph70 := of_bne_false h70
      refine WL.rw (t := 36) (v := .bool false) (congrArg Value.bool h70) (k := ?_)
      refine WL.op (d := 37) (.int .i64 ((applyT ti (opVal (opOf r31))).2)) (k := ?_)
      refine WL.op (d := 38) (.bool (((applyT ti (opVal (opOf r31))).2) != 0)) (k := ?_)
      refine WL.op (d := 39) (.bool (((applyT ti (opVal (opOf r31))).2) != 0)) (k := ?_)
      refine WL.nil ?_
      refine WX.seqN ?_
      refine WC.cond (b := ((applyT ti (opVal (opOf r31))).2) != 0) (ht := fun h74 => ?_) (hf := fun h74 => ?_)
      · have ph74 := bne_iff_ne.1 h74
        refine WC.exit ?_
        refine WX.seqE ?_
        refine WX.blockO (by kernel_rfl) ?_
        refine WX.seqE ?_
        refine WX.seqE ?_
        refine WX.blockE ?_
        refine WX.seqN ?_
        refine WC.seq ?_
        refine WC.region ?_
        refine WL.load (v := .agg #[.slice Ao ti.rows.length co, .int .i64 ti.mode]) (ldN (T := 24) (i := 0) (m := 2) (l := [.slice Ao ti.rows.length co, .int .i64 ti.mode]) hb25) (k := ?_)
        refine WL.op (d := 45) (.int .i64 i) (k := ?_)
        refine WL.store (v := .agg #[.slice Ao ti.rows.length co, .int .i64 ti.mode]) (i := 0) (cs' := #[.slice Ao ti.rows.length co, .int .i64 ti.mode]) hb26 (k := fun w75 hb76 k77 => ?_)
        replace hb25 := k77.heap hb25 n13
        replace hb27 := hb27.keeps k77 hoff
        replace hb47 := k77.heap hb47 (Ne.symm n44)
        replace ho52 := ho52.keeps k77 (fun i hi e => (ho52.offT hb26 (by decide)) (e ▸ hi))
        replace hb68 := k77.heap hb68 (Ne.symm n64)
        replace K := K.trans' k77 (fun i hi e => absurd (e ▸ hi) (Nat.not_lt.2 z12))
        clear hb26
        refine WL.op (d := 5) (.int .i64 i) (k := ?_)
        refine WL.nil ?_
        refine WX.seqN ?_
        refine WC.ret ?_
        refine WX.scopeR ?_
        refine WX.ret (rs := [.cell 4 24, .tmp 5]) [.agg #[.slice Ao ti.rows.length co, .int .i64 ti.mode], .int .i64 i] (.tuple #[.agg #[.slice Ao ti.rows.length co, .int .i64 ti.mode], .int .i64 i]) ⟨⟨_, (by kernel_rfl), ldN (T := 24) (i := 0) (m := 2) (l := [.slice Ao ti.rows.length co, .int .i64 ti.mode]) hb76⟩, (by kernel_rfl), trivial⟩ (k := ?_)
        exact RepRes.mk (repI_stop i0 hrep hr32 (fun h => ph74 h.2)) (by omega) rfl hb27 K
      · have ph74 := of_bne_false h74
        refine WC.skip ?_
        refine WX.seqN ?_
        refine WC.seq ?_
        refine WC.region ?_
        refine WL.load (v := .agg #[.slice A50 (((applyT ti (opVal (opOf r31))).1.rows).length) c51, .int .i64 ((applyT ti (opVal (opOf r31))).1.mode)]) (ldN (T := 24) (i := 0) (m := 2) (l := [.slice A50 (((applyT ti (opVal (opOf r31))).1.rows).length) c51, .int .i64 ((applyT ti (opVal (opOf r31))).1.mode)]) hb68) (k := ?_)
        refine WL.store (v := .agg #[.slice A50 (((applyT ti (opVal (opOf r31))).1.rows).length) c51, .int .i64 ((applyT ti (opVal (opOf r31))).1.mode)]) (i := 0) (cs' := #[.slice A50 (((applyT ti (opVal (opOf r31))).1.rows).length) c51, .int .i64 ((applyT ti (opVal (opOf r31))).1.mode)]) hb25 (k := fun w78 hb79 k80 => ?_)
        replace hb26 := k80.heap hb26 (Ne.symm n13)
        replace hb47 := k80.heap hb47 (Ne.symm n43)
        replace ho52 := ho52.keeps k80 (fun i hi e => (ho52.offT hb25 (by decide)) (e ▸ hi))
        replace hb68 := k80.heap hb68 (Ne.symm n63)
        replace K := K.trans' k80 (fun i hi e => absurd (e ▸ hi) (Nat.not_lt.2 z6))
        clear hb25
        refine WL.nil ?_
        refine WX.seqN ?_
        refine WC.region ?_
        refine WL.op (d := 41) (.int .i64 i) (k := ?_)
        refine WL.opE (d := 42) (.int .i64 (IntKind.i64.wrap (i + 1))) (v := .int .i64 (i + 1)) (congrArg (Value.int .i64) (IntWalk.i64_in _ (by omega))) (k := ?_)
        refine WL.op (d := 6) (.int .i64 (i + 1)) (k := ?_)
        refine WL.nil ?_
        refine WX.blockN ?_
        refine WX.seqN ?_
        refine WC.region ?_
        refine WL.opE (d := 43) (.int .i64 (IntKind.i64.wrap (i + 1))) (v := .int .i64 (i + 1)) (congrArg (Value.int .i64) (IntWalk.i64_in _ (by omega))) (k := ?_)
        refine WL.op (d := 19) (.int .i64 (i + 1)) (k := ?_)
        refine WL.nil ?_
        refine WX.round (i + 1, (applyT ti (opVal (opOf r31))).1, A50, c51) (by show (ls.length - (i + 1)).toNat < (ls.length - i).toNat; omega) ⟨(by kernel_rfl), (by kernel_rfl), (by kernel_rfl), (by kernel_rfl), (by kernel_rfl), (by kernel_rfl), (by kernel_rfl), (by kernel_rfl), (by kernel_rfl), (by kernel_rfl), (by kernel_rfl), (by kernel_rfl), (by kernel_rfl), trivial⟩ ⟨K, hb79, hb26, (ho52.sl ekRow), (by omega), (by omega), (SlAt.cell ho52), (Nat.le_trans (applyT_len _ _) (by decide)), (repI_succ i0 hrep hr32 ph70 ph74), (OwAt.off_sl ho52 hb26 (by decide))⟩
  · have ph28 := of_decide_eq_false h28
    refine WC.exit ?_
    refine WX.seqE ?_
    refine WX.seqE ?_
    refine WX.blockE ?_
    refine WX.seqN ?_
    refine WC.seq ?_
    refine WC.region ?_
    refine WL.load (v := .agg #[.slice Ao ti.rows.length co, .int .i64 ti.mode]) (ldN (T := 24) (i := 0) (m := 2) (l := [.slice Ao ti.rows.length co, .int .i64 ti.mode]) hb25) (k := ?_)
    refine WL.op (d := 45) (.int .i64 i) (k := ?_)
    refine WL.store (v := .agg #[.slice Ao ti.rows.length co, .int .i64 ti.mode]) (i := 0) (cs' := #[.slice Ao ti.rows.length co, .int .i64 ti.mode]) hb26 (k := fun w81 hb82 k83 => ?_)
    replace hb25 := k83.heap hb25 n13
    replace hb27 := hb27.keeps k83 hoff
    replace K := K.trans' k83 (fun i hi e => absurd (e ▸ hi) (Nat.not_lt.2 z12))
    clear hb26
    refine WL.op (d := 5) (.int .i64 i) (k := ?_)
    refine WL.nil ?_
    refine WX.seqN ?_
    refine WC.ret ?_
    refine WX.scopeR ?_
    refine WX.ret (rs := [.cell 4 24, .tmp 5]) [.agg #[.slice Ao ti.rows.length co, .int .i64 ti.mode], .int .i64 i] (.tuple #[.agg #[.slice Ao ti.rows.length co, .int .i64 ti.mode], .int .i64 i]) ⟨⟨_, (by kernel_rfl), ldN (T := 24) (i := 0) (m := 2) (l := [.slice Ao ti.rows.length co, .int .i64 ti.mode]) hb82⟩, (by kernel_rfl), trivial⟩ (k := ?_)
    exact RepRes.mk (repI_end hrep (by omega)) (by omega) rfl hb27 K

set_option maxRecDepth 100000 in
set_option maxHeartbeats 4000000 in
theorem u14Replay_c {A L : Option Addr} {cp lc : Nat} {rows : List GRow} {md : Int} {ls : List (List UInt8)} {w : World} (hA : SlAt rowC 6 53 A rows w) (hc : rows.length ≤ cp) (hn : rows.length ≤ 100000) (hL : SlAt strC 1 9 L ls w) (hl : ls.length ≤ 1000000) (hm_ : ∀ s ∈ ls, s.length ≤ 1000000) : Calls Try.prog 33 #[.agg #[.slice A rows.length cp, .int .i64 md], .slice L ls.length lc] w (RepRes (replayT ⟨rows, md⟩ ls) w) := by
  have K : Keeps (fun _ => False) w w := Keeps.refl _ w
  refine Calls.start Try.func33 rfl (by kernel_rfl) ?_
  refine WC.seq ?_
  refine WC.region ?_
  refine WL.new (d := 2) (T := 24) #[.slice A rows.length cp, .int .i64 md] (k := fun b1 w2 g3 hb4 k5 => ?_)
  have z6 := Nat.le_trans K.size g3
  replace K := K.trans (k5.any _)
  refine WL.new (d := 4) (T := 24) #[.slice none 0 0, .int .i64 0] (k := fun b7 w8 g9 hb10 k11 => ?_)
  have z12 := Nat.le_trans K.size g9
  have n13 : b1 ≠ b7 := Nat.ne_of_lt (Nat.lt_of_lt_of_le (lt_of_heap hb4) g9)
  replace hb4 := k11.heap hb4 id
  replace K := K.trans (k11.any _)
  refine WL.op (d := 5) (.int .i64 0) (k := ?_)
  refine WL.nil ?_
  refine WX.seqN ?_
  refine WC.seq ?_
  refine WC.region ?_
  refine WL.load (v := .agg #[.slice A rows.length cp, .int .i64 md]) (ldN (T := 24) (i := 0) (m := 2) (l := [.slice A rows.length cp, .int .i64 md]) hb4) (k := ?_)
  refine WL.callG (d := 13) (f := 55) (args := #[.agg #[.slice A rows.length cp, .int .i64 md]]) (u14Check_c (cp := cp) (hA.adds K) (by first | omega | simp | (simp; omega))) (k := fun e_ w14 h_ => ⟨.bool (tokB (⟨rows, md⟩ : GTable)), h_.1, ?_⟩)
  have k15 := h_.2; clear h_
  replace hb4 := k15.heap hb4 id
  replace hb10 := k15.heap hb10 id
  replace K := K.trans (k15.any _)
  refine WL.op (d := 6) (.bool (tokB (⟨rows, md⟩ : GTable))) (k := ?_)
  refine WL.nil ?_
  refine WX.seqN ?_
  refine WC.seq ?_
  refine WC.seq ?_
  refine WC.region ?_
  refine WL.op (d := 7) (.int .i64 0) (k := ?_)
  refine WL.nil ?_
  refine WX.seqN ?_
  refine WC.block ?_
  refine WC.loop (ι := Int × GTable × (Option Addr) × Nat) (fun (⟨i, ti, Ao, co⟩ : Int × GTable × (Option Addr) × Nat) => [(0, .agg #[.slice A rows.length cp, .int .i64 md]), (1, .slice L ls.length lc), (2, .pointer (some ⟨b1, 0, none⟩)), (4, .pointer (some ⟨b7, 0, none⟩)), (12, .agg #[.slice A rows.length cp, .int .i64 md]), (13, .bool (tokB (⟨rows, md⟩ : GTable))), (6, .bool (tokB (⟨rows, md⟩ : GTable))), (7, .int .i64 i)]) (fun (⟨i, ti, Ao, co⟩ : Int × GTable × (Option Addr) × Nat) (w_ : World) => (Keeps (fun _ => False) w w_) ∧ (w_.heap[b1]? = some (.cells #[.slice Ao ti.rows.length co, .int .i64 ti.mode] 24 (0, 0))) ∧ (w_.heap[b7]? = some (.cells #[.slice none 0 0, .int .i64 0] 24 (0, 0))) ∧ (SlAt rowC 6 53 Ao ti.rows w_) ∧ (0 ≤ i) ∧ (i ≤ ls.length) ∧ (ti.rows.length ≤ co) ∧ (ti.rows.length ≤ 100000) ∧ (repI ⟨rows, md⟩ ti ls i) ∧ (ti.rows ≠ [] → ∀ p, Ao = some p → ¬ p.block = b7) ∧ (tokB ⟨rows, md⟩ = true ∨ (i = 0 ∧ ti = ⟨rows, md⟩))) (fun (⟨i, ti, Ao, co⟩ : Int × GTable × (Option Addr) × Nat) => (ls.length - i).toNat) (0, ⟨rows, md⟩, A, cp) ⟨(by kernel_rfl), (by kernel_rfl), (by kernel_rfl), (by kernel_rfl), (by kernel_rfl), (by kernel_rfl), (by kernel_rfl), (by kernel_rfl), trivial⟩ ⟨K, hb4, hb10, (hA.adds K), Int.le_refl 0, (by omega), hc, hn, repI_zero _ _, (fun hx p hp e => absurd (hA.lt hx p hp) (by omega)), (.inr ⟨rfl, rfl⟩)⟩ ?_
  rintro ⟨i, ti, Ao, co⟩ w16 ⟨K, hb17, hb18, hb19, i0, i1, hcp, hti, hrep, hoff, hm⟩
  refine WC.seq ?_
  refine WC.seq ?_
  refine WC.region ?_
  refine WL.op (d := 14) (.int .i64 i) (k := ?_)
  refine WL.op (d := 15) (.slice L ls.length lc) (k := ?_)
  refine WL.op (d := 16) (.int .i64 (ls.length : Int)) (k := ?_)
  refine WL.op (d := 17) (.bool (decide (i < (ls.length : Int)))) (k := ?_)
  refine WL.op (d := 18) (.bool (decide (i < (ls.length : Int)))) (k := ?_)
  refine bsplit (decide (i < (ls.length : Int))) (fun h20 => ?_) (fun h20 => ?_)
  · have ph20 := of_decide_eq_true h20
    refine WL.rw (t := 18) (v := .bool true) (congrArg Value.bool h20) (k := ?_)
    refine WL.op (d := 19) (.bool (tokB (⟨rows, md⟩ : GTable))) (k := ?_)
    refine WL.op (d := 20) (.bool (tokB (⟨rows, md⟩ : GTable))) (k := ?_)
    refine WL.nil ?_
    refine WX.seqN ?_
    refine WC.cond (b := tokB (⟨rows, md⟩ : GTable)) (ht := fun h21 => ?_) (hf := fun h21 => ?_)
    · have ph21 := tok_t h21
      refine WC.skip ?_
      refine WX.seqN ?_
      refine WC.seq ?_
      refine WC.block ?_
      refine WC.seq ?_
      refine WC.region ?_
      refine WL.op (d := 24) (.slice L ls.length lc) (k := ?_)
      refine WL.op (d := 25) (.int .i64 i) (k := ?_)
      obtain ⟨b22, o23, r24, hr25, hA26, he27⟩ := SlAt.at hL (i := i) (by omega) (by omega)
      refine WL.rw (t := 24) (v := .slice (some ⟨b22, o23, none⟩) ls.length lc) (congrArg (fun a => Value.slice a ls.length lc) hA26) (k := ?_)
      have slr24 := hm_ r24 (List.mem_of_getElem? hr25)
      refine WL.idx (T := 57) (E := 9) (m := 1) (b := b22) (o := o23) (len := ls.length) (cap := lc) (i := i) (kk := .i64) (d := 26) (by omega) (by omega) (k := ?_)
      refine WL.rw (t := 24) (v := .slice L ls.length lc) (congrArg (fun a => Value.slice a ls.length lc) (Eq.symm hA26)) (k := ?_)
      refine WL.load (v := .string ⟨(r24).toArray⟩) ((he27.adds K).ld0 (T := 9)) (k := ?_)
      refine WL.callG (d := 28) (f := 48) (args := #[.string ⟨(r24).toArray⟩]) (u13Read_v r24 (by show List.length r24 ≤ _; first | omega | (simp; omega)) w16) (k := fun e_ w28 h_ => ⟨.tuple #[GOp.val (opVal (opOf r24)), .int .i64 (opErr (opOf r24))], h_.1, ?_⟩)
      have k29 := h_.2; clear h_
      replace hb17 := k29.heap hb17 id
      replace hb18 := k29.heap hb18 id
      replace hb19 := hb19.adds k29
      replace K := K.trans (k29.any _)
      refine WL.op (d := 23) (.tuple #[GOp.val (opVal (opOf r24)), .int .i64 (opErr (opOf r24))]) (k := ?_)
      refine WL.op (d := 29) (GOp.val (opVal (opOf r24))) (k := ?_)
      refine WL.op (d := 30) (.int .i64 (opErr (opOf r24))) (k := ?_)
      refine WL.new (d := 8) (T := 46) #[.int .i64 0, .int .i64 0, .int .i64 0, .int .i64 0, .int .i64 0, .int .i64 0, .bool false, .int .i64 0, .int .i64 0, .int .i64 0] (k := fun b30 w31 g32 hb33 k34 => ?_)
      have z35 := Nat.le_trans K.size g32
      have n36 : b1 ≠ b30 := Nat.ne_of_lt (Nat.lt_of_lt_of_le (lt_of_heap hb17) g32)
      have n37 : b7 ≠ b30 := Nat.ne_of_lt (Nat.lt_of_lt_of_le (lt_of_heap hb18) g32)
      have n38 := SlAt.off_new hb19 g32
      replace hb17 := k34.heap hb17 id
      replace hb18 := k34.heap hb18 id
      replace hb19 := hb19.adds k34
      replace K := K.trans (k34.any _)
      refine WL.store (v := GOp.val (opVal (opOf r24))) (i := 0) (cs' := (Value.cells (GOp.val (opVal (opOf r24))))) hb33 (k := fun w39 hb40 k41 => ?_)
      replace hb17 := k41.heap hb17 n36
      replace hb18 := k41.heap hb18 n37
      replace hb19 := hb19.keeps k41 n38
      replace K := K.trans' k41 (fun i hi e => absurd (e ▸ hi) (Nat.not_lt.2 z35))
      clear hb33
      refine WL.op (d := 9) (.int .i64 (opErr (opOf r24))) (k := ?_)
      refine WL.nil ?_
      refine WX.seqN ?_
      refine WC.seq ?_
      refine WC.region ?_
      refine WL.load (v := .agg #[.slice Ao ti.rows.length co, .int .i64 ti.mode]) (ldN (T := 24) (i := 0) (m := 2) (l := [.slice Ao ti.rows.length co, .int .i64 ti.mode]) hb17) (k := ?_)
      refine WL.load (v := GOp.val (opVal (opOf r24))) (ldN (T := 46) (i := 0) (m := 10) (l := (Value.cells (GOp.val (opVal (opOf r24)))).toList) hb40) (k := ?_)
      refine WL.callG (d := 34) (f := 54) (args := #[.agg #[.slice Ao ti.rows.length co, .int .i64 ti.mode], GOp.val (opVal (opOf r24))]) (u14Apply_c (cp := co) hb19 (by omega) (by omega) ti.mode (opVal (opOf r24))) (k := fun e_ w42 h_ => ?_)
      obtain ⟨A43, c44, rfl, ho45, k46, ol47⟩ := h_
      refine ⟨_, rfl, ?_⟩
      have ol48 := fun i h => Nat.le_trans K.size (ol47 i h)
      replace hb17 := k46.heap hb17 id
      replace hb18 := k46.heap hb18 id
      replace hb19 := hb19.adds k46
      replace hb40 := k46.heap hb40 id
      replace K := K.trans (k46.any _)
      clear ol47
      have al49 := applyT_len ti (opVal (opOf r24))
      refine WL.op (d := 31) (.tuple #[.agg #[.slice A43 (((applyT ti (opVal (opOf r24))).1.rows).length) c44, .int .i64 ((applyT ti (opVal (opOf r24))).1.mode)], .int .i64 ((applyT ti (opVal (opOf r24))).2)]) (k := ?_)
      refine WL.op (d := 35) (.agg #[.slice A43 (((applyT ti (opVal (opOf r24))).1.rows).length) c44, .int .i64 ((applyT ti (opVal (opOf r24))).1.mode)]) (k := ?_)
      refine WL.op (d := 36) (.int .i64 ((applyT ti (opVal (opOf r24))).2)) (k := ?_)
      refine WL.new (d := 10) (T := 24) #[.slice none 0 0, .int .i64 0] (k := fun b50 w51 g52 hb53 k54 => ?_)
      have z55 := Nat.le_trans K.size g52
      have n56 : b1 ≠ b50 := Nat.ne_of_lt (Nat.lt_of_lt_of_le (lt_of_heap hb17) g52)
      have n57 : b7 ≠ b50 := Nat.ne_of_lt (Nat.lt_of_lt_of_le (lt_of_heap hb18) g52)
      have n58 := SlAt.off_new hb19 g52
      have n59 : b30 ≠ b50 := Nat.ne_of_lt (Nat.lt_of_lt_of_le (lt_of_heap hb40) g52)
      replace hb17 := k54.heap hb17 id
      replace hb18 := k54.heap hb18 id
      replace hb19 := hb19.adds k54
      replace hb40 := k54.heap hb40 id
      replace ho45 := ho45.adds k54
      replace K := K.trans (k54.any _)
      refine WL.store (v := .agg #[.slice A43 (((applyT ti (opVal (opOf r24))).1.rows).length) c44, .int .i64 ((applyT ti (opVal (opOf r24))).1.mode)]) (i := 0) (cs' := #[.slice A43 (((applyT ti (opVal (opOf r24))).1.rows).length) c44, .int .i64 ((applyT ti (opVal (opOf r24))).1.mode)]) hb53 (k := fun w60 hb61 k62 => ?_)
      replace hb17 := k62.heap hb17 n56
      replace hb18 := k62.heap hb18 n57
      replace hb19 := hb19.keeps k62 n58
      replace hb40 := k62.heap hb40 n59
      replace ho45 := ho45.keeps k62 (fun i hi e => (ho45.offT hb53 (by decide)) (e ▸ hi))
      replace K := K.trans' k62 (fun i hi e => absurd (e ▸ hi) (Nat.not_lt.2 z55))
      clear hb53
      refine WL.op (d := 11) (.int .i64 ((applyT ti (opVal (opOf r24))).2)) (k := ?_)
      refine WL.nil ?_
      refine WX.seqN ?_
      refine WC.seq ?_
      refine WC.seq ?_
      refine WC.region ?_
      refine WL.op (d := 37) (.int .i64 (opErr (opOf r24))) (k := ?_)
      refine WL.op (d := 38) (.bool ((opErr (opOf r24)) != 0)) (k := ?_)
      refine WL.op (d := 39) (.bool ((opErr (opOf r24)) != 0)) (k := ?_)
      refine bsplit ((opErr (opOf r24)) != 0) (fun h63 => ?_) (fun h63 => ?_)
      · have ph63 := bne_iff_ne.1 h63
        refine WL.rw (t := 39) (v := .bool true) (congrArg Value.bool h63) (k := ?_)
        refine WL.skip (d := 40) (k := ?_)
        refine WL.skip (d := 41) (k := ?_)
        refine WL.op (d := 42) (.bool true) (k := ?_)
        refine WL.nil ?_
        refine WX.seqN ?_
        refine WC.condT (k := ?_)
        refine WC.seq ?_
        refine WC.region ?_
        refine WL.load (v := .agg #[.slice Ao ti.rows.length co, .int .i64 ti.mode]) (ldN (T := 24) (i := 0) (m := 2) (l := [.slice Ao ti.rows.length co, .int .i64 ti.mode]) hb17) (k := ?_)
        refine WL.op (d := 44) (.int .i64 i) (k := ?_)
        refine WL.store (v := .agg #[.slice Ao ti.rows.length co, .int .i64 ti.mode]) (i := 0) (cs' := #[.slice Ao ti.rows.length co, .int .i64 ti.mode]) hb18 (k := fun w64 hb65 k66 => ?_)
        replace hb17 := k66.heap hb17 n13
        replace hb19 := hb19.keeps k66 hoff
        replace hb40 := k66.heap hb40 (Ne.symm n37)
        replace ho45 := ho45.keeps k66 (fun i hi e => (ho45.offT hb18 (by decide)) (e ▸ hi))
        replace hb61 := k66.heap hb61 (Ne.symm n57)
        replace K := K.trans' k66 (fun i hi e => absurd (e ▸ hi) (Nat.not_lt.2 z12))
        clear hb18
        refine WL.op (d := 5) (.int .i64 i) (k := ?_)
        refine WL.nil ?_
        refine WX.seqN ?_
        refine WC.ret ?_
        refine WX.seqR ?_
        refine WX.blockR ?_
        refine WX.seqR ?_
        refine WX.seqR ?_
        refine WX.blockR ?_
        refine WX.seqR ?_
        refine WX.ret (rs := [.cell 4 24, .tmp 5]) [.agg #[.slice Ao ti.rows.length co, .int .i64 ti.mode], .int .i64 i] (.tuple #[.agg #[.slice Ao ti.rows.length co, .int .i64 ti.mode], .int .i64 i]) ⟨⟨_, (by kernel_rfl), ldN (T := 24) (i := 0) (m := 2) (l := [.slice Ao ti.rows.length co, .int .i64 ti.mode]) hb65⟩, (by kernel_rfl), trivial⟩ (k := ?_)
        exact RepRes.mk (repI_stop i0 hrep hr25 (fun h => ph63 h.1)) (by omega) rfl hb19 K
      · have ph63 := of_bne_false h63
        refine WL.rw (t := 39) (v := .bool false) (congrArg Value.bool h63) (k := ?_)
        refine WL.op (d := 40) (.int .i64 ((applyT ti (opVal (opOf r24))).2)) (k := ?_)
        refine WL.op (d := 41) (.bool (((applyT ti (opVal (opOf r24))).2) != 0)) (k := ?_)
        refine WL.op (d := 42) (.bool (((applyT ti (opVal (opOf r24))).2) != 0)) (k := ?_)
        refine WL.nil ?_
        refine WX.seqN ?_
        refine WC.cond (b := ((applyT ti (opVal (opOf r24))).2) != 0) (ht := fun h67 => ?_) (hf := fun h67 => ?_)
        · have ph67 := bne_iff_ne.1 h67
          refine WC.seq ?_
          refine WC.region ?_
          refine WL.load (v := .agg #[.slice Ao ti.rows.length co, .int .i64 ti.mode]) (ldN (T := 24) (i := 0) (m := 2) (l := [.slice Ao ti.rows.length co, .int .i64 ti.mode]) hb17) (k := ?_)
          refine WL.op (d := 44) (.int .i64 i) (k := ?_)
          refine WL.store (v := .agg #[.slice Ao ti.rows.length co, .int .i64 ti.mode]) (i := 0) (cs' := #[.slice Ao ti.rows.length co, .int .i64 ti.mode]) hb18 (k := fun w68 hb69 k70 => ?_)
          replace hb17 := k70.heap hb17 n13
          replace hb19 := hb19.keeps k70 hoff
          replace hb40 := k70.heap hb40 (Ne.symm n37)
          replace ho45 := ho45.keeps k70 (fun i hi e => (ho45.offT hb18 (by decide)) (e ▸ hi))
          replace hb61 := k70.heap hb61 (Ne.symm n57)
          replace K := K.trans' k70 (fun i hi e => absurd (e ▸ hi) (Nat.not_lt.2 z12))
          clear hb18
          refine WL.op (d := 5) (.int .i64 i) (k := ?_)
          refine WL.nil ?_
          refine WX.seqN ?_
          refine WC.ret ?_
          refine WX.seqR ?_
          refine WX.blockR ?_
          refine WX.seqR ?_
          refine WX.seqR ?_
          refine WX.blockR ?_
          refine WX.seqR ?_
          refine WX.ret (rs := [.cell 4 24, .tmp 5]) [.agg #[.slice Ao ti.rows.length co, .int .i64 ti.mode], .int .i64 i] (.tuple #[.agg #[.slice Ao ti.rows.length co, .int .i64 ti.mode], .int .i64 i]) ⟨⟨_, (by kernel_rfl), ldN (T := 24) (i := 0) (m := 2) (l := [.slice Ao ti.rows.length co, .int .i64 ti.mode]) hb69⟩, (by kernel_rfl), trivial⟩ (k := ?_)
          exact RepRes.mk (repI_stop i0 hrep hr25 (fun h => ph67 h.2)) (by omega) rfl hb19 K
        · have ph67 := of_bne_false h67
          refine WC.skip ?_
          refine WX.seqN ?_
          refine WC.region ?_
          refine WL.load (v := .agg #[.slice A43 (((applyT ti (opVal (opOf r24))).1.rows).length) c44, .int .i64 ((applyT ti (opVal (opOf r24))).1.mode)]) (ldN (T := 24) (i := 0) (m := 2) (l := [.slice A43 (((applyT ti (opVal (opOf r24))).1.rows).length) c44, .int .i64 ((applyT ti (opVal (opOf r24))).1.mode)]) hb61) (k := ?_)
          refine WL.store (v := .agg #[.slice A43 (((applyT ti (opVal (opOf r24))).1.rows).length) c44, .int .i64 ((applyT ti (opVal (opOf r24))).1.mode)]) (i := 0) (cs' := #[.slice A43 (((applyT ti (opVal (opOf r24))).1.rows).length) c44, .int .i64 ((applyT ti (opVal (opOf r24))).1.mode)]) hb17 (k := fun w71 hb72 k73 => ?_)
          replace hb18 := k73.heap hb18 (Ne.symm n13)
          replace hb40 := k73.heap hb40 (Ne.symm n36)
          replace ho45 := ho45.keeps k73 (fun i hi e => (ho45.offT hb17 (by decide)) (e ▸ hi))
          replace hb61 := k73.heap hb61 (Ne.symm n56)
          replace K := K.trans' k73 (fun i hi e => absurd (e ▸ hi) (Nat.not_lt.2 z6))
          clear hb17
          refine WL.nil ?_
          refine WX.blockN ?_
          refine WX.seqN ?_
          refine WC.region ?_
          refine WL.op (d := 21) (.int .i64 i) (k := ?_)
          refine WL.opE (d := 22) (.int .i64 (IntKind.i64.wrap (i + 1))) (v := .int .i64 (i + 1)) (congrArg (Value.int .i64) (IntWalk.i64_in _ (by omega))) (k := ?_)
          refine WL.op (d := 7) (.int .i64 (i + 1)) (k := ?_)
          refine WL.nil ?_
          refine WX.round (i + 1, (applyT ti (opVal (opOf r24))).1, A43, c44) (by show (ls.length - (i + 1)).toNat < (ls.length - i).toNat; omega) ⟨(by kernel_rfl), (by kernel_rfl), (by kernel_rfl), (by kernel_rfl), (by kernel_rfl), (by kernel_rfl), (by kernel_rfl), (by kernel_rfl), trivial⟩ ⟨K, hb72, hb18, (ho45.sl ekRow), (by omega), (by omega), (SlAt.cell ho45), (Nat.le_trans (applyT_len _ _) (by decide)), (repI_succ i0 hrep hr25 ph63 ph67), (OwAt.off_sl ho45 hb18 (by decide)), (.inl h21)⟩
    · have ph21 := tok_f h21
      refine WC.exit ?_
      refine WX.seqE ?_
      refine WX.seqE ?_
      refine WX.blockE ?_
      refine WX.seqN ?_
      refine WC.seq ?_
      refine WC.seq ?_
      refine WC.region ?_
      refine WL.op (d := 46) (.bool (tokB (⟨rows, md⟩ : GTable))) (k := ?_)
      refine WL.op (d := 47) (.bool (!(tokB (⟨rows, md⟩ : GTable)))) (k := ?_)
      refine WL.nil ?_
      refine WX.seqN ?_
      refine WC.rw (t := 47) (v := .bool true) (congrArg Value.bool (congrArg Bool.not h21)) (k := ?_)
      refine WC.condT (k := ?_)
      refine WC.seq ?_
      refine WC.region ?_
      refine WL.load (v := .agg #[.slice Ao ti.rows.length co, .int .i64 ti.mode]) (ldN (T := 24) (i := 0) (m := 2) (l := [.slice Ao ti.rows.length co, .int .i64 ti.mode]) hb17) (k := ?_)
      refine WL.store (v := .agg #[.slice Ao ti.rows.length co, .int .i64 ti.mode]) (i := 0) (cs' := #[.slice Ao ti.rows.length co, .int .i64 ti.mode]) hb18 (k := fun w74 hb75 k76 => ?_)
      replace hb17 := k76.heap hb17 n13
      replace hb19 := hb19.keeps k76 hoff
      replace K := K.trans' k76 (fun i hi e => absurd (e ▸ hi) (Nat.not_lt.2 z12))
      clear hb18
      refine WL.op (d := 5) (.int .i64 0) (k := ?_)
      refine WL.nil ?_
      refine WX.seqN ?_
      refine WC.ret ?_
      refine WX.seqR ?_
      refine WX.ret (rs := [.cell 4 24, .tmp 5]) [.agg #[.slice Ao ti.rows.length co, .int .i64 ti.mode], .int .i64 0] (.tuple #[.agg #[.slice Ao ti.rows.length co, .int .i64 ti.mode], .int .i64 0]) ⟨⟨_, (by kernel_rfl), ldN (T := 24) (i := 0) (m := 2) (l := [.slice Ao ti.rows.length co, .int .i64 ti.mode]) hb75⟩, (by kernel_rfl), trivial⟩ (k := ?_)
      rcases hm with h_ | ⟨h_, h_t⟩
      · rw [h_] at h21; cases h21
      · subst h_t; exact RepRes.mk (replay_not h21 ls) rfl rfl hb19 K
  · have ph20 := of_decide_eq_false h20
    refine WL.rw (t := 18) (v := .bool false) (congrArg Value.bool h20) (k := ?_)
    refine WL.skip (d := 19) (k := ?_)
    refine WL.op (d := 20) (.bool false) (k := ?_)
    refine WL.nil ?_
    refine WX.seqN ?_
    refine WC.condF (k := ?_)
    refine WC.exit ?_
    refine WX.seqE ?_
    refine WX.seqE ?_
    refine WX.blockE ?_
    refine WX.seqN ?_
    refine WC.seq ?_
    refine WC.seq ?_
    refine WC.region ?_
    refine WL.op (d := 46) (.bool (tokB (⟨rows, md⟩ : GTable))) (k := ?_)
    refine WL.op (d := 47) (.bool (!(tokB (⟨rows, md⟩ : GTable)))) (k := ?_)
    refine WL.nil ?_
    refine WX.seqN ?_
    refine WC.cond (b := !(tokB (⟨rows, md⟩ : GTable))) (ht := fun h77 => ?_) (hf := fun h77 => ?_)
    · have h78 : (tokB (⟨rows, md⟩ : GTable)) = false := by simpa using h77
      have ph78 := tok_f h78
      refine WC.seq ?_
      refine WC.region ?_
      refine WL.load (v := .agg #[.slice Ao ti.rows.length co, .int .i64 ti.mode]) (ldN (T := 24) (i := 0) (m := 2) (l := [.slice Ao ti.rows.length co, .int .i64 ti.mode]) hb17) (k := ?_)
      refine WL.store (v := .agg #[.slice Ao ti.rows.length co, .int .i64 ti.mode]) (i := 0) (cs' := #[.slice Ao ti.rows.length co, .int .i64 ti.mode]) hb18 (k := fun w79 hb80 k81 => ?_)
      replace hb17 := k81.heap hb17 n13
      replace hb19 := hb19.keeps k81 hoff
      replace K := K.trans' k81 (fun i hi e => absurd (e ▸ hi) (Nat.not_lt.2 z12))
      clear hb18
      refine WL.op (d := 5) (.int .i64 0) (k := ?_)
      refine WL.nil ?_
      refine WX.seqN ?_
      refine WC.ret ?_
      refine WX.seqR ?_
      refine WX.ret (rs := [.cell 4 24, .tmp 5]) [.agg #[.slice Ao ti.rows.length co, .int .i64 ti.mode], .int .i64 0] (.tuple #[.agg #[.slice Ao ti.rows.length co, .int .i64 ti.mode], .int .i64 0]) ⟨⟨_, (by kernel_rfl), ldN (T := 24) (i := 0) (m := 2) (l := [.slice Ao ti.rows.length co, .int .i64 ti.mode]) hb80⟩, (by kernel_rfl), trivial⟩ (k := ?_)
      rcases hm with h_ | ⟨h_, h_t⟩
      · rw [h_] at h78; cases h78
      · subst h_t; exact RepRes.mk (replay_not h78 ls) rfl rfl hb19 K
    · have h82 : (tokB (⟨rows, md⟩ : GTable)) = true := by simpa using h77
      have ph82 := tok_t h82
      refine WC.skip ?_
      refine WX.seqN ?_
      refine WC.seq ?_
      refine WC.region ?_
      refine WL.load (v := .agg #[.slice Ao ti.rows.length co, .int .i64 ti.mode]) (ldN (T := 24) (i := 0) (m := 2) (l := [.slice Ao ti.rows.length co, .int .i64 ti.mode]) hb17) (k := ?_)
      refine WL.op (d := 50) (.slice L ls.length lc) (k := ?_)
      refine WL.op (d := 51) (.int .i64 (ls.length : Int)) (k := ?_)
      refine WL.store (v := .agg #[.slice Ao ti.rows.length co, .int .i64 ti.mode]) (i := 0) (cs' := #[.slice Ao ti.rows.length co, .int .i64 ti.mode]) hb18 (k := fun w83 hb84 k85 => ?_)
      replace hb17 := k85.heap hb17 n13
      replace hb19 := hb19.keeps k85 hoff
      replace K := K.trans' k85 (fun i hi e => absurd (e ▸ hi) (Nat.not_lt.2 z12))
      clear hb18
      refine WL.op (d := 5) (.int .i64 (ls.length : Int)) (k := ?_)
      refine WL.nil ?_
      refine WX.seqN ?_
      refine WC.ret ?_
      refine WX.ret (rs := [.cell 4 24, .tmp 5]) [.agg #[.slice Ao ti.rows.length co, .int .i64 ti.mode], .int .i64 (ls.length : Int)] (.tuple #[.agg #[.slice Ao ti.rows.length co, .int .i64 ti.mode], .int .i64 (ls.length : Int)]) ⟨⟨_, (by kernel_rfl), ldN (T := 24) (i := 0) (m := 2) (l := [.slice Ao ti.rows.length co, .int .i64 ti.mode]) hb84⟩, (by kernel_rfl), trivial⟩ (k := ?_)
      exact RepRes.mk (repI_end hrep (by omega)) (by omega) rfl hb19 K

end Go.Proofs.Ytpkcohhfkeinmaa
