/- JlS. -/
import Derived.Test.YtnndkgmcjbnfbaaGreatDoorPk6
import Derived.Test.YtnndkgmcjbnfbaaGreatDoorPkJl2
namespace Go.Proofs.YtnndkgmcjbnfbaaGreatDoor
open Go.RowKit
set_option linter.unusedVariables false
set_option linter.unusedSimpArgs false
set_option maxRecDepth 100000 in
set_option maxHeartbeats 4000000 in
theorem lJournalSafe_c {A : Option Addr} {ca : Nat} {tr : List GTry8} {w : World} (hA : SlAt tryC8 6 45 A tr w) (hTr : Tries8Ok tr w) (na : tr.length ≤ 9223372036854775807) : Calls Tryz.prog 7 #[.slice A tr.length ca] w fun e w' => e = .returned (.bool true) ∧ Adds w w' := by
  have K : Keeps (fun _ => False) w w := Keeps.refl _ w
  refine Calls.start Tryz.func7 rfl (by kernel_rfl) ?_
  refine WC.seq ?_
  refine WC.region ?_
  refine WL.op (d := 2) (.bool false) (k := ?_)
  refine WL.nil ?_
  refine WX.seqN ?_
  refine WC.seq ?_
  refine WC.region ?_
  refine WL.callG (d := 22) (f := 8) (args := #[]) (l08awake_c w) (k := fun e_ w1 h_ => ⟨.bool true, h_.1, ?_⟩)
  have k2 := h_.2; clear h_
  replace K := K.trans (k2.any _)
  refine WL.op (d := 3) (.bool true) (k := ?_)
  refine WL.nil ?_
  refine WX.seqN ?_
  refine WC.seq ?_
  refine WC.region ?_
  refine WL.callG (d := 23) (f := 9) (args := #[.int .i64 10]) (dNew_ok (n := 10) (by omega) (by omega) w1) (k := fun e_ w3 h_ => ?_)
  obtain ⟨b4, S5, rfl, g6, hd7, ho8, k9⟩ := h_
  refine ⟨_, rfl, ?_⟩
  have lk10 : ∀ k, S5 k → False ∨ w.heap.size ≤ k := fun k h => .inr (Nat.le_trans K.size (ho8 k h))
  have z11 := Nat.le_trans K.size g6
  replace K := K.trans (k9.any _)
  refine WL.op (d := 4) (.pointer (some ⟨b4, 0, none⟩)) (k := ?_)
  refine WL.nil ?_
  refine WX.seqN ?_
  refine WC.seq ?_
  refine WC.seq ?_
  refine WC.region ?_
  refine WL.op (d := 24) (.pointer (some ⟨b4, 0, none⟩)) (k := ?_)
  refine WL.op (d := 25) (.bool false) (k := ?_)
  refine WL.nil ?_
  refine WX.seqN ?_
  refine WC.condF (k := ?_)
  refine WC.skip ?_
  refine WX.seqN ?_
  refine WC.seq ?_
  refine WC.region ?_
  refine WL.op (d := 27) (.pointer (some ⟨b4, 0, none⟩)) (k := ?_)
  refine WL.callG (d := 28) (f := 10) (args := #[.pointer (some ⟨b4, 0, none⟩), .int .i64 2, .string ⟨#[98, 101, 103, 105, 110]⟩]) (jg_format (k := 2) (n := 6) (m := 10) (rd := 0) (l := [98, 101, 103, 105, 110]) (by omega) hd7 (by omega) (by omega) (by omega) (by omega) (by first | (simp; done) | (simp; omega))) (k := fun e_ w12 h_ => ?_)
  obtain ⟨jb13, rfl, S14, hd15, lk16, k17⟩ := h_
  refine ⟨_, rfl, ?_⟩
  have lk18 := lk_step lk10 lk16 K
  replace K := K.trans' k17 (fun i hi e => (lk10 i e).elim (fun h => h.elim) (fun h => absurd hi (Nat.not_lt.2 h)))
  clear hd7
  refine WL.op (d := 26) (.tuple #[.pointer (some ⟨jb13, 0, none⟩), .int .i64 0]) (k := ?_)
  refine WL.op (d := 29) (.pointer (some ⟨jb13, 0, none⟩)) (k := ?_)
  refine WL.op (d := 30) (.int .i64 0) (k := ?_)
  refine WL.op (d := 5) (.pointer (some ⟨jb13, 0, none⟩)) (k := ?_)
  refine WL.op (d := 6) (.int .i64 0) (k := ?_)
  refine WL.nil ?_
  refine WX.seqN ?_
  refine WC.seq ?_
  refine WC.seq ?_
  refine WC.region ?_
  refine WL.op (d := 31) (.int .i64 0) (k := ?_)
  refine WL.op (d := 32) (.bool false) (k := ?_)
  refine WL.nil ?_
  refine WX.seqN ?_
  refine WC.condF (k := ?_)
  refine WC.skip ?_
  refine WX.seqN ?_
  refine WC.seq ?_
  refine WC.region ?_
  refine WL.op (d := 33) (.agg #[.string ⟨#[98, 101, 103, 105, 110]⟩, .slice none 0 0]) (k := ?_)
  refine WL.new (d := 7) (T := 33) #[.string ⟨#[]⟩, .slice none 0 0] (k := fun b19 w20 g21 hb22 k23 => ?_)
  have z24 := Nat.le_trans K.size g21
  have n25 : ¬ S14 b19 := fun h => absurd (hd15.lt _ h) (Nat.not_lt.2 g21)
  replace hd15 := hd15.adds k23
  replace K := K.trans (k23.any _)
  refine WL.store (v := .agg #[.string ⟨#[98, 101, 103, 105, 110]⟩, .slice none 0 0]) (i := 0) (cs' := #[.string ⟨#[98, 101, 103, 105, 110]⟩, .slice none 0 0]) hb22 (k := fun w26 hb27 k28 => ?_)
  replace hd15 := hd15.keeps k28 (fun i hi e => n25 (e ▸ hi))
  replace K := K.trans' k28 (fun i hi e => absurd (e ▸ hi) (Nat.not_lt.2 z24))
  clear hb22
  refine WL.nil ?_
  refine WX.seqN ?_
  refine WC.seq ?_
  refine WC.seq ?_
  refine WC.region ?_
  refine WL.op (d := 8) (.int .i64 0) (k := ?_)
  refine WL.nil ?_
  refine WX.seqN ?_
  refine WC.block ?_
  refine WC.loop (ι := Int × Nat × Nat × (List UInt8) × (List (List UInt8)) × Int × Nat × (Option Addr) × Nat × (Nat → Prop)) (fun (⟨i, q, E, T, xs, rd, jb, Ah, ch, Si⟩ : Int × Nat × Nat × (List UInt8) × (List (List UInt8)) × Int × Nat × (Option Addr) × Nat × (Nat → Prop)) => [(0, .slice A tr.length ca), (22, .bool true), (3, .bool true), (23, .pointer (some ⟨b4, 0, none⟩)), (4, .pointer (some ⟨b4, 0, none⟩)), (24, .pointer (some ⟨b4, 0, none⟩)), (25, .bool false), (27, .pointer (some ⟨b4, 0, none⟩)), (28, .tuple #[.pointer (some ⟨jb13, 0, none⟩), .int .i64 0]), (26, .tuple #[.pointer (some ⟨jb13, 0, none⟩), .int .i64 0]), (29, .pointer (some ⟨jb13, 0, none⟩)), (30, .int .i64 0), (6, .int .i64 0), (31, .int .i64 0), (32, .bool false), (33, .agg #[.string ⟨#[98, 101, 103, 105, 110]⟩, .slice none 0 0]), (7, .pointer (some ⟨b19, 0, none⟩)), (8, .int .i64 i), (5, .pointer (some ⟨jb, 0, none⟩))]) (fun (⟨i, q, E, T, xs, rd, jb, Ah, ch, Si⟩ : Int × Nat × Nat × (List UInt8) × (List (List UInt8)) × Int × Nat × (Option Addr) × Nat × (Nat → Prop)) (w_ : World) => (Keeps (fun _ => False) w w_) ∧ (JgAt Si b4 (⟨2, 6, q, jb, 0, rd, E, T, xs⟩ : JG) w_) ∧ (∀ k, Si k → (fun _ => False) k ∨ w.heap.size ≤ k) ∧ (¬ Si b19) ∧ (∀ i, blk Ah = some i → ¬ Si i) ∧ (w_.heap[b19]? = some (.cells #[.string ⟨(T).toArray⟩, .slice Ah xs.length ch] 33 (0, 0))) ∧ (OwAt strC 1 9 Ah ch xs w_) ∧ (∀ i, blk Ah = some i → w.heap.size ≤ i) ∧ (0 ≤ i) ∧ (i ≤ 14) ∧ ((q : Int) = 1 + i)) (fun (⟨i, q, E, T, xs, rd, jb, Ah, ch, Si⟩ : Int × Nat × Nat × (List UInt8) × (List (List UInt8)) × Int × Nat × (Option Addr) × Nat × (Nat → Prop)) => (14 - i).toNat) (0, 1, 1, [98, 101, 103, 105, 110], [], (rcN 0 (2 * 2)), jb13, none, 0, S14) ⟨(by kernel_rfl), (by kernel_rfl), (by kernel_rfl), (by kernel_rfl), (by kernel_rfl), (by kernel_rfl), (by kernel_rfl), (by kernel_rfl), (by kernel_rfl), (by kernel_rfl), (by kernel_rfl), (by kernel_rfl), (by kernel_rfl), (by kernel_rfl), (by kernel_rfl), (by kernel_rfl), (by kernel_rfl), (by kernel_rfl), (by kernel_rfl), trivial⟩ ⟨K, hd15, lk18, n25, (fun i hi => by simp [blk] at hi), hb27, OwAt.nil, (by simp [blk]), Int.le_refl 0, (by decide), (by decide)⟩ ?_
  rintro ⟨i, q, E, T, xs, rd, jb, Ah, ch, Si⟩ w29 ⟨K, hb30, lk31, n32, n33, hb34, hb35, ol36, i0, i1, hq⟩
  have hc_ : xs.length ≤ 6 := hb30.cnt
  refine WC.seq ?_
  refine WC.seq ?_
  refine WC.region ?_
  refine WL.op (d := 34) (.int .i64 i) (k := ?_)
  refine WL.op (d := 35) (.slice A tr.length ca) (k := ?_)
  refine WL.op (d := 36) (.int .i64 (tr.length : Int)) (k := ?_)
  refine WL.op (d := 37) (.bool (decide (i < (tr.length : Int)))) (k := ?_)
  refine WL.op (d := 38) (.bool (decide (i < (tr.length : Int)))) (k := ?_)
  refine bsplit (decide (i < (tr.length : Int))) (fun h37 => ?_) (fun h37 => ?_)
  · have ph37 := of_decide_eq_true h37
    refine WL.rw (t := 38) (v := .bool true) (congrArg Value.bool h37) (k := ?_)
    refine WL.op (d := 39) (.int .i64 i) (k := ?_)
    refine WL.op (d := 40) (.bool (decide (i < 14))) (k := ?_)
    refine WL.op (d := 41) (.bool (decide (i < 14))) (k := ?_)
    refine WL.nil ?_
    refine WX.seqN ?_
    refine WC.cond (b := decide (i < 14)) (ht := fun h38 => ?_) (hf := fun h38 => ?_)
    · have ph38 := of_decide_eq_true h38
      refine WC.skip ?_
      refine WX.seqN ?_
      refine WC.seq ?_
      refine WC.block ?_
      refine WC.seq ?_
      refine WC.region ?_
      refine WL.op (d := 44) (.slice A tr.length ca) (k := ?_)
      refine WL.op (d := 45) (.int .i64 i) (k := ?_)
      obtain ⟨b39, o40, r41, hr42, hA43, he44⟩ := SlAt.at hA (i := i) (by omega) (by omega)
      refine WL.rw (t := 44) (v := .slice (some ⟨b39, o40, none⟩) tr.length ca) (congrArg (fun a => Value.slice a tr.length ca) hA43) (k := ?_)
      obtain ⟨ht45, hf46, hl47⟩ := hTr _ (List.mem_of_getElem? hr42)
      refine WL.idx (T := 40) (E := 45) (m := 6) (b := b39) (o := o40) (len := tr.length) (cap := ca) (i := i) (kk := .i64) (d := 46) (by omega) (by omega) (k := ?_)
      refine WL.rw (t := 44) (v := .slice A tr.length ca) (congrArg (fun a => Value.slice a tr.length ca) (Eq.symm hA43)) (k := ?_)
      refine WL.load (v := .agg #[.bool r41.sn, .bool r41.cr, .bool r41.tw, .string ⟨(r41.t).toArray⟩, .int .i64 r41.f, .slice r41.A r41.fs.length r41.c]) ((he44.adds K).ldW (T := 45)) (k := ?_)
      refine WL.new (d := 9) (T := 45) #[.bool false, .bool false, .bool false, .string ⟨#[]⟩, .int .i64 0, .slice none 0 0] (k := fun b48 w49 g50 hb51 k52 => ?_)
      have z53 := Nat.le_trans K.size g50
      have n54 : ¬ Si b48 := fun h => absurd (hb30.lt _ h) (Nat.not_lt.2 g50)
      have n55 : b19 ≠ b48 := Nat.ne_of_lt (Nat.lt_of_lt_of_le (lt_of_heap hb34) g50)
      have n56 := OwAt.off_new hb35 g50
      replace hb30 := hb30.adds k52
      replace hb34 := k52.heap hb34 id
      replace hb35 := hb35.adds k52
      replace K := K.trans (k52.any _)
      refine WL.store (v := .agg #[.bool r41.sn, .bool r41.cr, .bool r41.tw, .string ⟨(r41.t).toArray⟩, .int .i64 r41.f, .slice r41.A r41.fs.length r41.c]) (i := 0) (cs' := #[.bool r41.sn, .bool r41.cr, .bool r41.tw, .string ⟨(r41.t).toArray⟩, .int .i64 r41.f, .slice r41.A r41.fs.length r41.c]) hb51 (k := fun w57 hb58 k59 => ?_)
      replace hb30 := hb30.keeps k59 (fun i hi e => n54 (e ▸ hi))
      replace hb34 := k59.heap hb34 n55
      replace hb35 := hb35.keeps k59 (fun i hi e => (n56) (e ▸ hi))
      replace K := K.trans' k59 (fun i hi e => absurd (e ▸ hi) (Nat.not_lt.2 z53))
      clear hb51
      refine WL.nil ?_
      refine WX.seqN ?_
      refine WC.seq ?_
      refine WC.region ?_
      refine WL.load (v := .agg #[.string ⟨(T).toArray⟩, .slice Ah xs.length ch]) (ldN (T := 33) (i := 0) (m := 2) (l := [.string ⟨(T).toArray⟩, .slice Ah xs.length ch]) hb34) (k := ?_)
      refine WL.new (d := 10) (T := 33) #[.string ⟨#[]⟩, .slice none 0 0] (k := fun b60 w61 g62 hb63 k64 => ?_)
      have z65 := Nat.le_trans K.size g62
      have n66 : ¬ Si b60 := fun h => absurd (hb30.lt _ h) (Nat.not_lt.2 g62)
      have n67 : b19 ≠ b60 := Nat.ne_of_lt (Nat.lt_of_lt_of_le (lt_of_heap hb34) g62)
      have n68 := OwAt.off_new hb35 g62
      have n69 : b48 ≠ b60 := Nat.ne_of_lt (Nat.lt_of_lt_of_le (lt_of_heap hb58) g62)
      replace hb30 := hb30.adds k64
      replace hb34 := k64.heap hb34 id
      replace hb35 := hb35.adds k64
      replace hb58 := k64.heap hb58 id
      replace K := K.trans (k64.any _)
      refine WL.store (v := .agg #[.string ⟨(T).toArray⟩, .slice Ah xs.length ch]) (i := 0) (cs' := #[.string ⟨(T).toArray⟩, .slice Ah xs.length ch]) hb63 (k := fun w70 hb71 k72 => ?_)
      replace hb30 := hb30.keeps k72 (fun i hi e => n66 (e ▸ hi))
      replace hb34 := k72.heap hb34 n67
      replace hb35 := hb35.keeps k72 (fun i hi e => (n68) (e ▸ hi))
      replace hb58 := k72.heap hb58 n69
      replace K := K.trans' k72 (fun i hi e => absurd (e ▸ hi) (Nat.not_lt.2 z65))
      clear hb63
      refine WL.nil ?_
      refine WX.seqN ?_
      refine WC.seq ?_
      refine WC.region ?_
      refine WL.op (d := 49) (.pointer (some ⟨b4, 0, none⟩)) (k := ?_)
      refine WL.op (d := 50) (.pointer (some ⟨b48, 4, none⟩)) (k := ?_)
      refine WL.load (v := .int .i64 r41.f) (ld1 (T := 3) (i := 4) hb58) (k := ?_)
      refine WL.bin (d := 52) (v := .int .i64 (bits BinOp.and IntKind.i64 r41.f 7)) (bits_run (by decide)) (k := ?_)
      obtain ⟨an73, ha74⟩ : ∃ q : Int, bits BinOp.and IntKind.i64 r41.f 7 = q := ⟨_, rfl⟩
      have ar75 := and7_eq (x := r41.f)
      rw [ha74] at ar75
      refine WL.rw (t := 52) (v := .int .i64 an73) (congrArg (Value.int .i64) ha74) (k := ?_)
      refine WL.callG (d := 53) (f := 12) (args := #[.pointer (some ⟨b4, 0, none⟩), .int .i64 an73]) (jg_fail (f' := an73) hb30 (by omega) (by omega)) (k := fun e_ w76 h_ => ?_)
      obtain ⟨rfl, S77, hd78, lk79, k80⟩ := h_
      refine ⟨_, rfl, ?_⟩
      have n81 : ¬ S77 b19 := fun h => (lk79 _ h).elim n32 (fun h2 => absurd (lt_of_heap hb34) (Nat.not_lt.2 h2))
      have n82 : ∀ i, blk Ah = some i → ¬ S77 i := fun i hi h => (lk79 _ h).elim (n33 i hi) (fun h2 => absurd (hb35.lt i hi) (Nat.not_lt.2 h2))
      have n83 : ¬ S77 b48 := fun h => (lk79 _ h).elim n54 (fun h2 => absurd (lt_of_heap hb58) (Nat.not_lt.2 h2))
      have n84 : ¬ S77 b60 := fun h => (lk79 _ h).elim n66 (fun h2 => absurd (lt_of_heap hb71) (Nat.not_lt.2 h2))
      have lk85 := lk_step lk31 lk79 K
      replace hb34 := k80.heap hb34 n32
      replace hb35 := hb35.keeps k80 n33
      replace hb58 := k80.heap hb58 n54
      replace hb71 := k80.heap hb71 n66
      replace K := K.trans' k80 (fun i hi e => (lk31 i e).elim (fun h => h.elim) (fun h => absurd hi (Nat.not_lt.2 h)))
      clear hb30
      refine WL.nil ?_
      refine WX.seqN ?_
      refine WC.seq ?_
      refine WC.region ?_
      refine WL.op (d := 11) (.int .i64 0) (k := ?_)
      refine WL.nil ?_
      refine WX.seqN ?_
      refine WC.seqW (ι := Int × (List UInt8) × (List (List UInt8)) × (Option Addr) × Nat × (Nat → Prop)) (fun (⟨R, Tn, ys, An, cn, Sn⟩ : Int × (List UInt8) × (List (List UInt8)) × (Option Addr) × Nat × (Nat → Prop)) => [(0, .slice A tr.length ca), (22, .bool true), (3, .bool true), (23, .pointer (some ⟨b4, 0, none⟩)), (4, .pointer (some ⟨b4, 0, none⟩)), (24, .pointer (some ⟨b4, 0, none⟩)), (25, .bool false), (27, .pointer (some ⟨b4, 0, none⟩)), (28, .tuple #[.pointer (some ⟨jb13, 0, none⟩), .int .i64 0]), (26, .tuple #[.pointer (some ⟨jb13, 0, none⟩), .int .i64 0]), (29, .pointer (some ⟨jb13, 0, none⟩)), (30, .int .i64 0), (6, .int .i64 0), (31, .int .i64 0), (32, .bool false), (33, .agg #[.string ⟨#[98, 101, 103, 105, 110]⟩, .slice none 0 0]), (7, .pointer (some ⟨b19, 0, none⟩)), (8, .int .i64 i), (5, .pointer (some ⟨jb, 0, none⟩)), (34, .int .i64 i), (35, .slice A tr.length ca), (36, .int .i64 (tr.length : Int)), (37, .bool (decide (i < (tr.length : Int)))), (38, .bool true), (39, .int .i64 i), (40, .bool (decide (i < 14))), (41, .bool (decide (i < 14))), (44, .slice A tr.length ca), (45, .int .i64 i), (46, .pointer (some ⟨b39, o40 + (i).toNat * 6, none⟩)), (47, .agg #[.bool r41.sn, .bool r41.cr, .bool r41.tw, .string ⟨(r41.t).toArray⟩, .int .i64 r41.f, .slice r41.A r41.fs.length r41.c]), (9, .pointer (some ⟨b48, 0, none⟩)), (48, .agg #[.string ⟨(T).toArray⟩, .slice Ah xs.length ch]), (10, .pointer (some ⟨b60, 0, none⟩)), (49, .pointer (some ⟨b4, 0, none⟩)), (50, .pointer (some ⟨b48, 4, none⟩)), (51, .int .i64 r41.f), (52, .int .i64 an73), (11, .int .i64 R)]) (fun (⟨R, Tn, ys, An, cn, Sn⟩ : Int × (List UInt8) × (List (List UInt8)) × (Option Addr) × Nat × (Nat → Prop)) (w_ : World) => (Keeps (fun _ => False) w w_) ∧ (JmAt false Sn b4 (⟨2, 6, (q + 1), jb, r41.sn, T, xs, Tn, ys, R⟩ : JM) w_) ∧ (∀ k, Sn k → (fun _ => False) k ∨ w.heap.size ≤ k) ∧ (¬ Sn b19) ∧ (∀ i, blk Ah = some i → ¬ Sn i) ∧ (¬ Sn b48) ∧ (¬ Sn b60) ∧ (∀ i, blk An = some i → ¬ Sn i) ∧ (w_.heap[b19]? = some (.cells #[.string ⟨(T).toArray⟩, .slice Ah xs.length ch] 33 (0, 0))) ∧ (OwAt strC 1 9 Ah ch xs w_) ∧ (∀ i, blk Ah = some i → w.heap.size ≤ i) ∧ (w_.heap[b48]? = some (.cells #[.bool r41.sn, .bool r41.cr, .bool r41.tw, .string ⟨(r41.t).toArray⟩, .int .i64 r41.f, .slice r41.A r41.fs.length r41.c] 45 (0, 0))) ∧ (w_.heap[b60]? = some (.cells #[.string ⟨(Tn).toArray⟩, .slice An ys.length cn] 33 (0, 0))) ∧ (OwAt strC 1 9 An cn ys w_) ∧ (∀ i, blk An = some i → w.heap.size ≤ i) ∧ (R = 0 ∨ R = 18 ∨ R = 22) ∧ (ys.length ≤ 7)) ?_ ?_
      · rintro ⟨R, Tn, ys, An, cn, Sn⟩ w86 ⟨K, hb87, lk88, n89, n90, n91, n92, n93, hb94, hb95, ol96, hb97, hb98, hb99, ol100, hR, hy⟩
        refine WC.seq ?_
        refine WC.region ?_
        refine WL.op (d := 78) (.pointer (some ⟨b4, 0, none⟩)) (k := ?_)
        refine WL.callG (d := 79) (f := 12) (args := #[.pointer (some ⟨b4, 0, none⟩), .int .i64 0]) (jm_fail hb87) (k := fun e_ w101 h_ => ?_)
        obtain ⟨rfl, S102, hd103, lk104, k105⟩ := h_
        refine ⟨_, rfl, ?_⟩
        have n106 : ¬ S102 b19 := fun h => (lk104 _ h).elim n89 (fun h2 => absurd (lt_of_heap hb94) (Nat.not_lt.2 h2))
        have n107 : ∀ i, blk Ah = some i → ¬ S102 i := fun i hi h => (lk104 _ h).elim (n90 i hi) (fun h2 => absurd (hb95.lt i hi) (Nat.not_lt.2 h2))
        have n108 : ¬ S102 b48 := fun h => (lk104 _ h).elim n91 (fun h2 => absurd (lt_of_heap hb97) (Nat.not_lt.2 h2))
        have n109 : ¬ S102 b60 := fun h => (lk104 _ h).elim n92 (fun h2 => absurd (lt_of_heap hb98) (Nat.not_lt.2 h2))
        have n110 : ∀ i, blk An = some i → ¬ S102 i := fun i hi h => (lk104 _ h).elim (n93 i hi) (fun h2 => absurd (hb99.lt i hi) (Nat.not_lt.2 h2))
        have lk111 := lk_step lk88 lk104 K
        replace hb94 := k105.heap hb94 n89
        replace hb95 := hb95.keeps k105 n90
        replace hb97 := k105.heap hb97 n91
        replace hb98 := k105.heap hb98 n92
        replace hb99 := hb99.keeps k105 n93
        replace K := K.trans' k105 (fun i hi e => (lk88 i e).elim (fun h => h.elim) (fun h => absurd hi (Nat.not_lt.2 h)))
        clear hb87
        refine WL.nil ?_
        refine WX.seqN ?_
        refine WC.seqW (ι := (Nat → Prop)) (fun (Sc : (Nat → Prop)) => [(0, .slice A tr.length ca), (22, .bool true), (3, .bool true), (23, .pointer (some ⟨b4, 0, none⟩)), (4, .pointer (some ⟨b4, 0, none⟩)), (24, .pointer (some ⟨b4, 0, none⟩)), (25, .bool false), (27, .pointer (some ⟨b4, 0, none⟩)), (28, .tuple #[.pointer (some ⟨jb13, 0, none⟩), .int .i64 0]), (26, .tuple #[.pointer (some ⟨jb13, 0, none⟩), .int .i64 0]), (29, .pointer (some ⟨jb13, 0, none⟩)), (30, .int .i64 0), (6, .int .i64 0), (31, .int .i64 0), (32, .bool false), (33, .agg #[.string ⟨#[98, 101, 103, 105, 110]⟩, .slice none 0 0]), (7, .pointer (some ⟨b19, 0, none⟩)), (8, .int .i64 i), (5, .pointer (some ⟨jb, 0, none⟩)), (34, .int .i64 i), (35, .slice A tr.length ca), (36, .int .i64 (tr.length : Int)), (37, .bool (decide (i < (tr.length : Int)))), (38, .bool true), (39, .int .i64 i), (40, .bool (decide (i < 14))), (41, .bool (decide (i < 14))), (44, .slice A tr.length ca), (45, .int .i64 i), (46, .pointer (some ⟨b39, o40 + (i).toNat * 6, none⟩)), (47, .agg #[.bool r41.sn, .bool r41.cr, .bool r41.tw, .string ⟨(r41.t).toArray⟩, .int .i64 r41.f, .slice r41.A r41.fs.length r41.c]), (9, .pointer (some ⟨b48, 0, none⟩)), (48, .agg #[.string ⟨(T).toArray⟩, .slice Ah xs.length ch]), (10, .pointer (some ⟨b60, 0, none⟩)), (49, .pointer (some ⟨b4, 0, none⟩)), (50, .pointer (some ⟨b48, 4, none⟩)), (51, .int .i64 r41.f), (52, .int .i64 an73), (11, .int .i64 R), (78, .pointer (some ⟨b4, 0, none⟩))]) (fun (Sc : (Nat → Prop)) (w_ : World) => (Keeps (fun _ => False) w w_) ∧ (JmAt true Sc b4 (⟨2, 6, (q + 1), jb, r41.sn, T, xs, Tn, ys, R⟩ : JM) w_) ∧ (∀ k, Sc k → (fun _ => False) k ∨ w.heap.size ≤ k) ∧ (¬ Sc b19) ∧ (∀ i, blk Ah = some i → ¬ Sc i) ∧ (¬ Sc b48) ∧ (¬ Sc b60) ∧ (∀ i, blk An = some i → ¬ Sc i) ∧ (w_.heap[b19]? = some (.cells #[.string ⟨(T).toArray⟩, .slice Ah xs.length ch] 33 (0, 0))) ∧ (OwAt strC 1 9 Ah ch xs w_) ∧ (∀ i, blk Ah = some i → w.heap.size ≤ i) ∧ (w_.heap[b48]? = some (.cells #[.bool r41.sn, .bool r41.cr, .bool r41.tw, .string ⟨(r41.t).toArray⟩, .int .i64 r41.f, .slice r41.A r41.fs.length r41.c] 45 (0, 0))) ∧ (w_.heap[b60]? = some (.cells #[.string ⟨(Tn).toArray⟩, .slice An ys.length cn] 33 (0, 0))) ∧ (OwAt strC 1 9 An cn ys w_) ∧ (∀ i, blk An = some i → w.heap.size ≤ i)) ?_ ?_
        · rintro Sc w112 ⟨K, hb113, lk114, n115, n116, n117, n118, n119, hb120, hb121, ol122, hb123, hb124, hb125, ol126⟩
          refine WC.seq ?_
          refine WC.region ?_
          refine WL.op (d := 87) (.pointer (some ⟨b4, 0, none⟩)) (k := ?_)
          refine WL.callG (d := 88) (f := 13) (args := #[.pointer (some ⟨b4, 0, none⟩), .int .i64 2]) (jm_open (k := 2) hb113) (k := fun e_ w127 h_ => ?_)
          obtain ⟨jb128, A129, c130, S131, E132, T133, xs134, rd135, rfl, ht136, hd137, ho138, ol139, n140, lk141, k142⟩ := h_
          refine ⟨_, rfl, ?_⟩
          have ol143 := fun i h => Nat.le_trans K.size (ol139 i h)
          have n144 : ¬ S131 b19 := fun h => (lk141 _ h).elim n115 (fun h2 => absurd (lt_of_heap hb120) (Nat.not_lt.2 h2))
          have n145 : ∀ i, blk Ah = some i → ¬ S131 i := fun i hi h => (lk141 _ h).elim (n116 i hi) (fun h2 => absurd (hb121.lt i hi) (Nat.not_lt.2 h2))
          have n146 : ¬ S131 b48 := fun h => (lk141 _ h).elim n117 (fun h2 => absurd (lt_of_heap hb123) (Nat.not_lt.2 h2))
          have n147 : ¬ S131 b60 := fun h => (lk141 _ h).elim n118 (fun h2 => absurd (lt_of_heap hb124) (Nat.not_lt.2 h2))
          have n148 : ∀ i, blk An = some i → ¬ S131 i := fun i hi h => (lk141 _ h).elim (n119 i hi) (fun h2 => absurd (hb125.lt i hi) (Nat.not_lt.2 h2))
          have lk149 := lk_step lk114 lk141 K
          replace hb120 := k142.heap hb120 n115
          replace hb121 := hb121.keeps k142 n116
          replace hb123 := k142.heap hb123 n117
          replace hb124 := k142.heap hb124 n118
          replace hb125 := hb125.keeps k142 n119
          replace K := K.trans' k142 (fun i hi e => (lk114 i e).elim (fun h => h.elim) (fun h => absurd hi (Nat.not_lt.2 h)))
          clear hb113
          have cn150 : List.length xs134 ≤ 6 := hd137.cnt
          refine WL.op (d := 86) (.tuple #[.pointer (some ⟨jb128, 0, none⟩), .agg #[.string ⟨(T133).toArray⟩, .slice A129 (List.length xs134) c130], .int .i64 0]) (k := ?_)
          refine WL.op (d := 89) (.pointer (some ⟨jb128, 0, none⟩)) (k := ?_)
          refine WL.op (d := 90) (.agg #[.string ⟨(T133).toArray⟩, .slice A129 (List.length xs134) c130]) (k := ?_)
          refine WL.op (d := 91) (.int .i64 0) (k := ?_)
          refine WL.new (d := 14) (T := 33) #[.string ⟨#[]⟩, .slice none 0 0] (k := fun b151 w152 g153 hb154 k155 => ?_)
          have z156 := Nat.le_trans K.size g153
          have n157 : ¬ S131 b151 := fun h => absurd (hd137.lt _ h) (Nat.not_lt.2 g153)
          have n158 : b19 ≠ b151 := Nat.ne_of_lt (Nat.lt_of_lt_of_le (lt_of_heap hb120) g153)
          have n159 := OwAt.off_new hb121 g153
          have n160 : b48 ≠ b151 := Nat.ne_of_lt (Nat.lt_of_lt_of_le (lt_of_heap hb123) g153)
          have n161 : b60 ≠ b151 := Nat.ne_of_lt (Nat.lt_of_lt_of_le (lt_of_heap hb124) g153)
          have n162 := OwAt.off_new hb125 g153
          have n163 := OwAt.off_new ho138 g153
          replace hd137 := hd137.adds k155
          replace hb120 := k155.heap hb120 id
          replace hb121 := hb121.adds k155
          replace hb123 := k155.heap hb123 id
          replace hb124 := k155.heap hb124 id
          replace hb125 := hb125.adds k155
          replace ho138 := ho138.adds k155
          replace K := K.trans (k155.any _)
          refine WL.op (d := 13) (.pointer (some ⟨jb128, 0, none⟩)) (k := ?_)
          refine WL.store (v := .agg #[.string ⟨(T133).toArray⟩, .slice A129 (List.length xs134) c130]) (i := 0) (cs' := #[.string ⟨(T133).toArray⟩, .slice A129 (List.length xs134) c130]) hb154 (k := fun w164 hb165 k166 => ?_)
          replace hd137 := hd137.keeps k166 (fun i hi e => n157 (e ▸ hi))
          replace hb120 := k166.heap hb120 n158
          replace hb121 := hb121.keeps k166 (fun i hi e => (n159) (e ▸ hi))
          replace hb123 := k166.heap hb123 n160
          replace hb124 := k166.heap hb124 n161
          replace hb125 := hb125.keeps k166 (fun i hi e => (n162) (e ▸ hi))
          replace ho138 := ho138.keeps k166 (fun i hi e => (n163) (e ▸ hi))
          replace K := K.trans' k166 (fun i hi e => absurd (e ▸ hi) (Nat.not_lt.2 z156))
          clear hb154
          refine WL.op (d := 15) (.int .i64 0) (k := ?_)
          refine WL.nil ?_
          refine WX.seqN ?_
          refine WC.seq ?_
          refine WC.seq ?_
          refine WC.region ?_
          refine WL.op (d := 92) (.int .i64 0) (k := ?_)
          refine WL.op (d := 93) (.bool false) (k := ?_)
          refine WL.op (d := 94) (.bool false) (k := ?_)
          refine WL.op (d := 95) (.pointer (some ⟨jb128, 0, none⟩)) (k := ?_)
          refine WL.op (d := 96) (.bool false) (k := ?_)
          refine WL.op (d := 97) (.bool false) (k := ?_)
          refine WL.nil ?_
          refine WX.seqN ?_
          refine WC.condF (k := ?_)
          refine WC.skip ?_
          refine WX.seqN ?_
          refine WC.seqW (ι := Nat × Int × (Nat → Prop)) (fun (⟨jc, rc, So⟩ : Nat × Int × (Nat → Prop)) => [(0, .slice A tr.length ca), (22, .bool true), (3, .bool true), (23, .pointer (some ⟨b4, 0, none⟩)), (4, .pointer (some ⟨b4, 0, none⟩)), (24, .pointer (some ⟨b4, 0, none⟩)), (25, .bool false), (27, .pointer (some ⟨b4, 0, none⟩)), (28, .tuple #[.pointer (some ⟨jb13, 0, none⟩), .int .i64 0]), (26, .tuple #[.pointer (some ⟨jb13, 0, none⟩), .int .i64 0]), (29, .pointer (some ⟨jb13, 0, none⟩)), (30, .int .i64 0), (6, .int .i64 0), (31, .int .i64 0), (32, .bool false), (33, .agg #[.string ⟨#[98, 101, 103, 105, 110]⟩, .slice none 0 0]), (7, .pointer (some ⟨b19, 0, none⟩)), (8, .int .i64 i), (5, .pointer (some ⟨jb, 0, none⟩)), (34, .int .i64 i), (35, .slice A tr.length ca), (36, .int .i64 (tr.length : Int)), (37, .bool (decide (i < (tr.length : Int)))), (38, .bool true), (39, .int .i64 i), (40, .bool (decide (i < 14))), (41, .bool (decide (i < 14))), (44, .slice A tr.length ca), (45, .int .i64 i), (46, .pointer (some ⟨b39, o40 + (i).toNat * 6, none⟩)), (47, .agg #[.bool r41.sn, .bool r41.cr, .bool r41.tw, .string ⟨(r41.t).toArray⟩, .int .i64 r41.f, .slice r41.A r41.fs.length r41.c]), (9, .pointer (some ⟨b48, 0, none⟩)), (48, .agg #[.string ⟨(T).toArray⟩, .slice Ah xs.length ch]), (10, .pointer (some ⟨b60, 0, none⟩)), (49, .pointer (some ⟨b4, 0, none⟩)), (50, .pointer (some ⟨b48, 4, none⟩)), (51, .int .i64 r41.f), (52, .int .i64 an73), (11, .int .i64 R), (78, .pointer (some ⟨b4, 0, none⟩)), (87, .pointer (some ⟨b4, 0, none⟩)), (88, .tuple #[.pointer (some ⟨jb128, 0, none⟩), .agg #[.string ⟨(T133).toArray⟩, .slice A129 (List.length xs134) c130], .int .i64 0]), (86, .tuple #[.pointer (some ⟨jb128, 0, none⟩), .agg #[.string ⟨(T133).toArray⟩, .slice A129 (List.length xs134) c130], .int .i64 0]), (89, .pointer (some ⟨jb128, 0, none⟩)), (90, .agg #[.string ⟨(T133).toArray⟩, .slice A129 (List.length xs134) c130]), (91, .int .i64 0), (14, .pointer (some ⟨b151, 0, none⟩)), (13, .pointer (some ⟨jc, 0, none⟩)), (15, .int .i64 0), (92, .int .i64 0), (93, .bool false), (94, .bool false), (95, .pointer (some ⟨jb128, 0, none⟩)), (96, .bool false), (97, .bool false)]) (fun (⟨jc, rc, So⟩ : Nat × Int × (Nat → Prop)) (w_ : World) => (Keeps (fun _ => False) w w_) ∧ (JgAt So b4 (⟨2, 6, (q + 1), jc, 0, rc, E132, T133, xs134⟩ : JG) w_) ∧ (∀ k, So k → (fun _ => False) k ∨ w.heap.size ≤ k) ∧ (¬ So b19) ∧ (∀ i, blk Ah = some i → ¬ So i) ∧ (¬ So b48) ∧ (¬ So b60) ∧ (∀ i, blk An = some i → ¬ So i) ∧ (∀ i, blk A129 = some i → ¬ So i) ∧ (¬ So b151) ∧ (w_.heap[b19]? = some (.cells #[.string ⟨(T).toArray⟩, .slice Ah xs.length ch] 33 (0, 0))) ∧ (OwAt strC 1 9 Ah ch xs w_) ∧ (∀ i, blk Ah = some i → w.heap.size ≤ i) ∧ (w_.heap[b48]? = some (.cells #[.bool r41.sn, .bool r41.cr, .bool r41.tw, .string ⟨(r41.t).toArray⟩, .int .i64 r41.f, .slice r41.A r41.fs.length r41.c] 45 (0, 0))) ∧ (w_.heap[b60]? = some (.cells #[.string ⟨(Tn).toArray⟩, .slice An ys.length cn] 33 (0, 0))) ∧ (OwAt strC 1 9 An cn ys w_) ∧ (∀ i, blk An = some i → w.heap.size ≤ i) ∧ (OwAt strC 1 9 A129 c130 xs134 w_) ∧ (∀ i, blk A129 = some i → w.heap.size ≤ i) ∧ (w_.heap[b151]? = some (.cells #[.string ⟨(T133).toArray⟩, .slice A129 (List.length xs134) c130] 33 (0, 0)))) ?_ ?_
          · rintro ⟨jc, rc, So⟩ w167 ⟨K, hb168, lk169, n170, n171, n172, n173, n174, n175, n176, hb177, hb178, ol179, hb180, hb181, hb182, ol183, hb184, ol185, hb186⟩
            refine WC.seq ?_
            refine WC.region ?_
            refine WL.load (v := .agg #[.string ⟨(T133).toArray⟩, .slice A129 (List.length xs134) c130]) (ldN (T := 33) (i := 0) (m := 2) (l := [.string ⟨(T133).toArray⟩, .slice A129 (List.length xs134) c130]) hb186) (k := ?_)
            refine WL.load (v := .agg #[.string ⟨(T).toArray⟩, .slice Ah xs.length ch]) (ldN (T := 33) (i := 0) (m := 2) (l := [.string ⟨(T).toArray⟩, .slice Ah xs.length ch]) hb177) (k := ?_)
            refine WL.callG (d := 122) (f := 21) (args := #[.agg #[.string ⟨(T133).toArray⟩, .slice A129 (List.length xs134) c130], .agg #[.string ⟨(T).toArray⟩, .slice Ah xs.length ch]]) (u08Same_c (s8 := T133) (t8 := T) (xs := xs134) (ys := xs) (cp := c130) (cq := ch) (hb184.sl ekStr) (hb178.sl ekStr) (by first | omega | (simp; omega)) (by first | omega | (simp; omega))) (k := fun e_ w187 h_ => ⟨.bool (decide (T133 = T ∧ xs134 = xs)), h_.1, ?_⟩)
            have k188 := h_.2; clear h_
            replace hb168 := hb168.adds k188
            replace hb177 := k188.heap hb177 id
            replace hb178 := hb178.adds k188
            replace hb180 := k188.heap hb180 id
            replace hb181 := k188.heap hb181 id
            replace hb182 := hb182.adds k188
            replace hb184 := hb184.adds k188
            replace hb186 := k188.heap hb186 id
            replace K := K.trans (k188.any _)
            refine WL.op (d := 20) (.bool (decide (T133 = T ∧ xs134 = xs))) (k := ?_)
            refine WL.nil ?_
            refine WX.seqN ?_
            refine WC.seq ?_
            refine WC.region ?_
            refine WL.load (v := .agg #[.string ⟨(T133).toArray⟩, .slice A129 (List.length xs134) c130]) (ldN (T := 33) (i := 0) (m := 2) (l := [.string ⟨(T133).toArray⟩, .slice A129 (List.length xs134) c130]) hb186) (k := ?_)
            refine WL.load (v := .agg #[.string ⟨(Tn).toArray⟩, .slice An ys.length cn]) (ldN (T := 33) (i := 0) (m := 2) (l := [.string ⟨(Tn).toArray⟩, .slice An ys.length cn]) hb181) (k := ?_)
            refine WL.callG (d := 125) (f := 21) (args := #[.agg #[.string ⟨(T133).toArray⟩, .slice A129 (List.length xs134) c130], .agg #[.string ⟨(Tn).toArray⟩, .slice An ys.length cn]]) (u08Same_c (s8 := T133) (t8 := Tn) (xs := xs134) (ys := ys) (cp := c130) (cq := cn) (hb184.sl ekStr) (hb182.sl ekStr) (by first | omega | (simp; omega)) (by first | omega | (simp; omega))) (k := fun e_ w189 h_ => ⟨.bool (decide (T133 = Tn ∧ xs134 = ys)), h_.1, ?_⟩)
            have k190 := h_.2; clear h_
            replace hb168 := hb168.adds k190
            replace hb177 := k190.heap hb177 id
            replace hb178 := hb178.adds k190
            replace hb180 := k190.heap hb180 id
            replace hb181 := k190.heap hb181 id
            replace hb182 := hb182.adds k190
            replace hb184 := hb184.adds k190
            replace hb186 := k190.heap hb186 id
            replace K := K.trans (k190.any _)
            refine WL.op (d := 21) (.bool (decide (T133 = Tn ∧ xs134 = ys))) (k := ?_)
            refine WL.nil ?_
            refine WX.seqN ?_
            refine WC.seq ?_
            refine WC.seq ?_
            refine WC.region ?_
            refine WL.op (d := 126) (.int .i64 R) (k := ?_)
            refine WL.op (d := 127) (.bool (R == 0)) (k := ?_)
            refine WL.op (d := 128) (.bool (R == 0)) (k := ?_)
            refine bsplit (R == 0) (fun h191 => ?_) (fun h191 => ?_)
            · have ph191 := eq_of_beq h191
              have h192 : (R != 0) = false := bne_eq_false_iff_eq.2 (by omega)
              have h193 : (R == 18) = false := beq_eq_false_iff_ne.2 (by omega)
              have h194 : (R != 18) = true := bne_iff_ne.2 (by omega)
              have h195 : (R == 22) = false := beq_eq_false_iff_ne.2 (by omega)
              have h196 : (R != 22) = true := bne_iff_ne.2 (by omega)
              refine WL.rw (t := 128) (v := .bool true) (congrArg Value.bool h191) (k := ?_)
              refine WL.op (d := 129) (.bool (decide (T133 = Tn ∧ xs134 = ys))) (k := ?_)
              refine WL.op (d := 130) (.bool (!(decide (T133 = Tn ∧ xs134 = ys)))) (k := ?_)
              refine WL.op (d := 131) (.bool (!(decide (T133 = Tn ∧ xs134 = ys)))) (k := ?_)
              refine WL.op (d := 132) (.bool (!(decide (T133 = Tn ∧ xs134 = ys)))) (k := ?_)
              refine bsplit (!(decide (T133 = Tn ∧ xs134 = ys))) (fun h197 => ?_) (fun h197 => ?_)
              · have h198 : (decide (T133 = Tn ∧ xs134 = ys)) = false := Bool.not_inj (y := false) h197
                have ph198 := of_decide_eq_false h198
                refine WL.rw (t := 132) (v := .bool true) (congrArg Value.bool h197) (k := ?_)
                refine WL.skip (d := 133) (k := ?_)
                refine WL.skip (d := 134) (k := ?_)
                refine WL.skip (d := 135) (k := ?_)
                refine WL.skip (d := 136) (k := ?_)
                refine WL.skip (d := 137) (k := ?_)
                refine WL.skip (d := 138) (k := ?_)
                refine WL.skip (d := 139) (k := ?_)
                refine WL.skip (d := 140) (k := ?_)
                refine WL.skip (d := 141) (k := ?_)
                refine WL.skip (d := 142) (k := ?_)
                refine WL.op (d := 143) (.bool true) (k := ?_)
                refine WL.op (d := 144) (.bool true) (k := ?_)
                refine WL.skip (d := 145) (k := ?_)
                refine WL.skip (d := 146) (k := ?_)
                refine WL.skip (d := 147) (k := ?_)
                refine WL.skip (d := 148) (k := ?_)
                refine WL.skip (d := 149) (k := ?_)
                refine WL.skip (d := 150) (k := ?_)
                refine WL.skip (d := 151) (k := ?_)
                refine WL.skip (d := 152) (k := ?_)
                refine WL.skip (d := 153) (k := ?_)
                refine WL.skip (d := 154) (k := ?_)
                refine WL.skip (d := 155) (k := ?_)
                refine WL.skip (d := 156) (k := ?_)
                refine WL.skip (d := 157) (k := ?_)
                refine WL.skip (d := 158) (k := ?_)
                refine WL.skip (d := 159) (k := ?_)
                refine WL.skip (d := 160) (k := ?_)
                refine WL.op (d := 161) (.bool true) (k := ?_)
                refine WL.op (d := 162) (.bool true) (k := ?_)
                refine WL.skip (d := 163) (k := ?_)
                refine WL.skip (d := 164) (k := ?_)
                refine WL.skip (d := 165) (k := ?_)
                refine WL.skip (d := 166) (k := ?_)
                refine WL.skip (d := 167) (k := ?_)
                refine WL.skip (d := 168) (k := ?_)
                refine WL.skip (d := 169) (k := ?_)
                refine WL.skip (d := 170) (k := ?_)
                refine WL.skip (d := 171) (k := ?_)
                refine WL.skip (d := 172) (k := ?_)
                refine WL.op (d := 173) (.bool true) (k := ?_)
                refine WL.nil ?_
                refine WX.seqN ?_
                refine WC.condT (k := ?_)
                refine WC.seq ?_
                refine WC.region ?_
                refine WL.op (d := 2) (.bool false) (k := ?_)
                refine WL.nil ?_
                refine WX.seqN ?_
                refine WC.ret ?_
                refine WX.seqR ?_
                refine WX.blockR ?_
                refine WX.seqR ?_
                refine WX.seqR ?_
                refine WX.blockR ?_
                refine WX.seqR ?_
                refine WX.ret (rs := [.tmp 2]) [.bool false] (.bool false) ⟨(by kernel_rfl), trivial⟩ (k := ?_)
                exfalso; rcases ht136 with ⟨q1_, q2_, q3_⟩ | ⟨q1_, ⟨q2_, q3_⟩ | ⟨q2_, q3_⟩⟩ | ⟨q1_, q2_, q3_, q4_, q5_⟩ <;> simp_all
              · have h199 : (decide (T133 = Tn ∧ xs134 = ys)) = true := Bool.not_inj (y := true) h197
                have ph199 := of_decide_eq_true h199
                refine WL.rw (t := 132) (v := .bool false) (congrArg Value.bool h197) (k := ?_)
                refine WL.op (d := 133) (.int .i64 R) (k := ?_)
                refine WL.op (d := 134) (.bool (R == 18)) (k := ?_)
                refine WL.op (d := 135) (.bool (R == 18)) (k := ?_)
                refine WL.rw (t := 135) (v := .bool false) (congrArg Value.bool h193) (k := ?_)
                refine WL.skip (d := 136) (k := ?_)
                refine WL.skip (d := 137) (k := ?_)
                refine WL.op (d := 138) (.bool false) (k := ?_)
                refine WL.op (d := 139) (.bool false) (k := ?_)
                refine WL.skip (d := 140) (k := ?_)
                refine WL.skip (d := 141) (k := ?_)
                refine WL.op (d := 142) (.bool false) (k := ?_)
                refine WL.op (d := 143) (.bool false) (k := ?_)
                refine WL.op (d := 144) (.bool false) (k := ?_)
                refine WL.op (d := 145) (.int .i64 R) (k := ?_)
                refine WL.op (d := 146) (.bool (R == 22)) (k := ?_)
                refine WL.op (d := 147) (.bool (R == 22)) (k := ?_)
                refine WL.rw (t := 147) (v := .bool false) (congrArg Value.bool h195) (k := ?_)
                refine WL.skip (d := 148) (k := ?_)
                refine WL.skip (d := 149) (k := ?_)
                refine WL.skip (d := 150) (k := ?_)
                refine WL.skip (d := 151) (k := ?_)
                refine WL.skip (d := 152) (k := ?_)
                refine WL.skip (d := 153) (k := ?_)
                refine WL.skip (d := 154) (k := ?_)
                refine WL.skip (d := 155) (k := ?_)
                refine WL.skip (d := 156) (k := ?_)
                refine WL.skip (d := 157) (k := ?_)
                refine WL.skip (d := 158) (k := ?_)
                refine WL.skip (d := 159) (k := ?_)
                refine WL.op (d := 160) (.bool false) (k := ?_)
                refine WL.op (d := 161) (.bool false) (k := ?_)
                refine WL.op (d := 162) (.bool false) (k := ?_)
                refine WL.op (d := 163) (.int .i64 R) (k := ?_)
                refine WL.op (d := 164) (.bool (R != 0)) (k := ?_)
                refine WL.op (d := 165) (.bool (R != 0)) (k := ?_)
                refine WL.rw (t := 165) (v := .bool false) (congrArg Value.bool h192) (k := ?_)
                refine WL.skip (d := 166) (k := ?_)
                refine WL.skip (d := 167) (k := ?_)
                refine WL.op (d := 168) (.bool false) (k := ?_)
                refine WL.op (d := 169) (.bool false) (k := ?_)
                refine WL.skip (d := 170) (k := ?_)
                refine WL.skip (d := 171) (k := ?_)
                refine WL.op (d := 172) (.bool false) (k := ?_)
                refine WL.op (d := 173) (.bool false) (k := ?_)
                refine WL.nil ?_
                refine WX.seqN ?_
                refine WC.condF (k := ?_)
                refine WC.skip ?_
                refine WX.seqN ?_
                refine WC.seq ?_
                refine WC.region ?_
                refine WL.load (v := .agg #[.string ⟨(T133).toArray⟩, .slice A129 (List.length xs134) c130]) (ldN (T := 33) (i := 0) (m := 2) (l := [.string ⟨(T133).toArray⟩, .slice A129 (List.length xs134) c130]) hb186) (k := ?_)
                refine WL.store (v := .agg #[.string ⟨(T133).toArray⟩, .slice A129 (List.length xs134) c130]) (i := 0) (cs' := #[.string ⟨(T133).toArray⟩, .slice A129 (List.length xs134) c130]) hb177 (k := fun w200 hb201 k202 => ?_)
                replace hb168 := hb168.keeps k202 (fun i hi e => n170 (e ▸ hi))
                replace hb178 := hb178.keeps k202 (fun i hi e => (hb178.offT hb177 (by decide)) (e ▸ hi))
                replace hb180 := k202.heap hb180 (Ne.symm n55)
                replace hb181 := k202.heap hb181 (Ne.symm n67)
                replace hb182 := hb182.keeps k202 (fun i hi e => (hb182.offT hb177 (by decide)) (e ▸ hi))
                replace hb184 := hb184.keeps k202 (fun i hi e => (hb184.offT hb177 (by decide)) (e ▸ hi))
                replace hb186 := k202.heap hb186 (Ne.symm n158)
                replace K := K.trans' k202 (fun i hi e => absurd (e ▸ hi) (Nat.not_lt.2 z24))
                clear hb177
                refine WL.nil ?_
                refine WX.seqN ?_
                refine WC.region ?_
                refine WL.op (d := 175) (.pointer (some ⟨jc, 0, none⟩)) (k := ?_)
                refine WL.op (d := 5) (.pointer (some ⟨jc, 0, none⟩)) (k := ?_)
                refine WL.nil ?_
                refine WX.blockN ?_
                refine WX.seqN ?_
                refine WC.region ?_
                refine WL.op (d := 42) (.int .i64 i) (k := ?_)
                refine WL.opE (d := 43) (.int .i64 (IntKind.i64.wrap (i + 1))) (v := .int .i64 (i + 1)) (congrArg (Value.int .i64) (IntWalk.i64_in _ (by omega))) (k := ?_)
                refine WL.op (d := 8) (.int .i64 (i + 1)) (k := ?_)
                refine WL.nil ?_
                refine WX.round (i + 1, (q + 1), E132, T133, xs134, rc, jc, A129, c130, So) (by show (14 - (i + 1)).toNat < (14 - i).toNat; omega) ⟨(by kernel_rfl), (by kernel_rfl), (by kernel_rfl), (by kernel_rfl), (by kernel_rfl), (by kernel_rfl), (by kernel_rfl), (by kernel_rfl), (by kernel_rfl), (by kernel_rfl), (by kernel_rfl), (by kernel_rfl), (by kernel_rfl), (by kernel_rfl), (by kernel_rfl), (by kernel_rfl), (by kernel_rfl), (by kernel_rfl), (by kernel_rfl), trivial⟩ ⟨K, hb168, lk169, n170, n175, hb201, hb184, ol185, (by omega), (by omega), (by omega)⟩
            · have ph191 := ne_of_beq_false h191
              have h203 : (R != 0) = true := bne_iff_ne.2 (by omega)
              refine WL.rw (t := 128) (v := .bool false) (congrArg Value.bool h191) (k := ?_)
              refine WL.skip (d := 129) (k := ?_)
              refine WL.skip (d := 130) (k := ?_)
              refine WL.op (d := 131) (.bool false) (k := ?_)
              refine WL.op (d := 132) (.bool false) (k := ?_)
              refine WL.op (d := 133) (.int .i64 R) (k := ?_)
              refine WL.op (d := 134) (.bool (R == 18)) (k := ?_)
              refine WL.op (d := 135) (.bool (R == 18)) (k := ?_)
              refine bsplit (R == 18) (fun h204 => ?_) (fun h204 => ?_)
              · have ph204 := eq_of_beq h204
                have h205 : (R != 18) = false := bne_eq_false_iff_eq.2 (by omega)
                have h206 : (R == 22) = false := beq_eq_false_iff_ne.2 (by omega)
                have h207 : (R != 22) = true := bne_iff_ne.2 (by omega)
                refine WL.rw (t := 135) (v := .bool true) (congrArg Value.bool h204) (k := ?_)
                refine WL.op (d := 136) (.bool (decide (T133 = Tn ∧ xs134 = ys))) (k := ?_)
                refine WL.op (d := 137) (.bool (!(decide (T133 = Tn ∧ xs134 = ys)))) (k := ?_)
                refine WL.op (d := 138) (.bool (!(decide (T133 = Tn ∧ xs134 = ys)))) (k := ?_)
                refine WL.op (d := 139) (.bool (!(decide (T133 = Tn ∧ xs134 = ys)))) (k := ?_)
                refine bsplit (!(decide (T133 = Tn ∧ xs134 = ys))) (fun h208 => ?_) (fun h208 => ?_)
                · have h209 : (decide (T133 = Tn ∧ xs134 = ys)) = false := Bool.not_inj (y := false) h208
                  have ph209 := of_decide_eq_false h209
                  refine WL.rw (t := 139) (v := .bool true) (congrArg Value.bool h208) (k := ?_)
                  refine WL.op (d := 140) (.bool (decide (T133 = T ∧ xs134 = xs))) (k := ?_)
                  refine WL.op (d := 141) (.bool (!(decide (T133 = T ∧ xs134 = xs)))) (k := ?_)
                  refine WL.op (d := 142) (.bool (!(decide (T133 = T ∧ xs134 = xs)))) (k := ?_)
                  refine WL.op (d := 143) (.bool (!(decide (T133 = T ∧ xs134 = xs)))) (k := ?_)
                  refine WL.op (d := 144) (.bool (!(decide (T133 = T ∧ xs134 = xs)))) (k := ?_)
                  refine bsplit (!(decide (T133 = T ∧ xs134 = xs))) (fun h210 => ?_) (fun h210 => ?_)
                  · have h211 : (decide (T133 = T ∧ xs134 = xs)) = false := Bool.not_inj (y := false) h210
                    have ph211 := of_decide_eq_false h211
                    refine WL.rw (t := 144) (v := .bool true) (congrArg Value.bool h210) (k := ?_)
                    refine WL.skip (d := 145) (k := ?_)
                    refine WL.skip (d := 146) (k := ?_)
                    refine WL.skip (d := 147) (k := ?_)
                    refine WL.skip (d := 148) (k := ?_)
                    refine WL.skip (d := 149) (k := ?_)
                    refine WL.skip (d := 150) (k := ?_)
                    refine WL.skip (d := 151) (k := ?_)
                    refine WL.skip (d := 152) (k := ?_)
                    refine WL.skip (d := 153) (k := ?_)
                    refine WL.skip (d := 154) (k := ?_)
                    refine WL.skip (d := 155) (k := ?_)
                    refine WL.skip (d := 156) (k := ?_)
                    refine WL.skip (d := 157) (k := ?_)
                    refine WL.skip (d := 158) (k := ?_)
                    refine WL.skip (d := 159) (k := ?_)
                    refine WL.skip (d := 160) (k := ?_)
                    refine WL.op (d := 161) (.bool true) (k := ?_)
                    refine WL.op (d := 162) (.bool true) (k := ?_)
                    refine WL.skip (d := 163) (k := ?_)
                    refine WL.skip (d := 164) (k := ?_)
                    refine WL.skip (d := 165) (k := ?_)
                    refine WL.skip (d := 166) (k := ?_)
                    refine WL.skip (d := 167) (k := ?_)
                    refine WL.skip (d := 168) (k := ?_)
                    refine WL.skip (d := 169) (k := ?_)
                    refine WL.skip (d := 170) (k := ?_)
                    refine WL.skip (d := 171) (k := ?_)
                    refine WL.skip (d := 172) (k := ?_)
                    refine WL.op (d := 173) (.bool true) (k := ?_)
                    refine WL.nil ?_
                    refine WX.seqN ?_
                    refine WC.condT (k := ?_)
                    refine WC.seq ?_
                    refine WC.region ?_
                    refine WL.op (d := 2) (.bool false) (k := ?_)
                    refine WL.nil ?_
                    refine WX.seqN ?_
                    refine WC.ret ?_
                    refine WX.seqR ?_
                    refine WX.blockR ?_
                    refine WX.seqR ?_
                    refine WX.seqR ?_
                    refine WX.blockR ?_
                    refine WX.seqR ?_
                    refine WX.ret (rs := [.tmp 2]) [.bool false] (.bool false) ⟨(by kernel_rfl), trivial⟩ (k := ?_)
                    exfalso; rcases ht136 with ⟨q1_, q2_, q3_⟩ | ⟨q1_, ⟨q2_, q3_⟩ | ⟨q2_, q3_⟩⟩ | ⟨q1_, q2_, q3_, q4_, q5_⟩ <;> simp_all
                  · have h212 : (decide (T133 = T ∧ xs134 = xs)) = true := Bool.not_inj (y := true) h210
                    have ph212 := of_decide_eq_true h212
                    refine WL.rw (t := 144) (v := .bool false) (congrArg Value.bool h210) (k := ?_)
                    refine WL.op (d := 145) (.int .i64 R) (k := ?_)
                    refine WL.op (d := 146) (.bool (R == 22)) (k := ?_)
                    refine WL.op (d := 147) (.bool (R == 22)) (k := ?_)
                    refine WL.rw (t := 147) (v := .bool false) (congrArg Value.bool h206) (k := ?_)
                    refine WL.skip (d := 148) (k := ?_)
                    refine WL.skip (d := 149) (k := ?_)
                    refine WL.skip (d := 150) (k := ?_)
                    refine WL.skip (d := 151) (k := ?_)
                    refine WL.skip (d := 152) (k := ?_)
                    refine WL.skip (d := 153) (k := ?_)
                    refine WL.skip (d := 154) (k := ?_)
                    refine WL.skip (d := 155) (k := ?_)
                    refine WL.skip (d := 156) (k := ?_)
                    refine WL.skip (d := 157) (k := ?_)
                    refine WL.skip (d := 158) (k := ?_)
                    refine WL.skip (d := 159) (k := ?_)
                    refine WL.op (d := 160) (.bool false) (k := ?_)
                    refine WL.op (d := 161) (.bool false) (k := ?_)
                    refine WL.op (d := 162) (.bool false) (k := ?_)
                    refine WL.op (d := 163) (.int .i64 R) (k := ?_)
                    refine WL.op (d := 164) (.bool (R != 0)) (k := ?_)
                    refine WL.op (d := 165) (.bool (R != 0)) (k := ?_)
                    refine WL.rw (t := 165) (v := .bool true) (congrArg Value.bool h203) (k := ?_)
                    refine WL.op (d := 166) (.int .i64 R) (k := ?_)
                    refine WL.op (d := 167) (.bool (R != 18)) (k := ?_)
                    refine WL.op (d := 168) (.bool (R != 18)) (k := ?_)
                    refine WL.op (d := 169) (.bool (R != 18)) (k := ?_)
                    refine WL.rw (t := 169) (v := .bool false) (congrArg Value.bool h205) (k := ?_)
                    refine WL.skip (d := 170) (k := ?_)
                    refine WL.skip (d := 171) (k := ?_)
                    refine WL.op (d := 172) (.bool false) (k := ?_)
                    refine WL.op (d := 173) (.bool false) (k := ?_)
                    refine WL.nil ?_
                    refine WX.seqN ?_
                    refine WC.condF (k := ?_)
                    refine WC.skip ?_
                    refine WX.seqN ?_
                    refine WC.seq ?_
                    refine WC.region ?_
                    refine WL.load (v := .agg #[.string ⟨(T133).toArray⟩, .slice A129 (List.length xs134) c130]) (ldN (T := 33) (i := 0) (m := 2) (l := [.string ⟨(T133).toArray⟩, .slice A129 (List.length xs134) c130]) hb186) (k := ?_)
                    refine WL.store (v := .agg #[.string ⟨(T133).toArray⟩, .slice A129 (List.length xs134) c130]) (i := 0) (cs' := #[.string ⟨(T133).toArray⟩, .slice A129 (List.length xs134) c130]) hb177 (k := fun w213 hb214 k215 => ?_)
                    replace hb168 := hb168.keeps k215 (fun i hi e => n170 (e ▸ hi))
                    replace hb178 := hb178.keeps k215 (fun i hi e => (hb178.offT hb177 (by decide)) (e ▸ hi))
                    replace hb180 := k215.heap hb180 (Ne.symm n55)
                    replace hb181 := k215.heap hb181 (Ne.symm n67)
                    replace hb182 := hb182.keeps k215 (fun i hi e => (hb182.offT hb177 (by decide)) (e ▸ hi))
                    replace hb184 := hb184.keeps k215 (fun i hi e => (hb184.offT hb177 (by decide)) (e ▸ hi))
                    replace hb186 := k215.heap hb186 (Ne.symm n158)
                    replace K := K.trans' k215 (fun i hi e => absurd (e ▸ hi) (Nat.not_lt.2 z24))
                    clear hb177
                    refine WL.nil ?_
                    refine WX.seqN ?_
                    refine WC.region ?_
                    refine WL.op (d := 175) (.pointer (some ⟨jc, 0, none⟩)) (k := ?_)
                    refine WL.op (d := 5) (.pointer (some ⟨jc, 0, none⟩)) (k := ?_)
                    refine WL.nil ?_
                    refine WX.blockN ?_
                    refine WX.seqN ?_
                    refine WC.region ?_
                    refine WL.op (d := 42) (.int .i64 i) (k := ?_)
                    refine WL.opE (d := 43) (.int .i64 (IntKind.i64.wrap (i + 1))) (v := .int .i64 (i + 1)) (congrArg (Value.int .i64) (IntWalk.i64_in _ (by omega))) (k := ?_)
                    refine WL.op (d := 8) (.int .i64 (i + 1)) (k := ?_)
                    refine WL.nil ?_
                    refine WX.round (i + 1, (q + 1), E132, T133, xs134, rc, jc, A129, c130, So) (by show (14 - (i + 1)).toNat < (14 - i).toNat; omega) ⟨(by kernel_rfl), (by kernel_rfl), (by kernel_rfl), (by kernel_rfl), (by kernel_rfl), (by kernel_rfl), (by kernel_rfl), (by kernel_rfl), (by kernel_rfl), (by kernel_rfl), (by kernel_rfl), (by kernel_rfl), (by kernel_rfl), (by kernel_rfl), (by kernel_rfl), (by kernel_rfl), (by kernel_rfl), (by kernel_rfl), (by kernel_rfl), trivial⟩ ⟨K, hb168, lk169, n170, n175, hb214, hb184, ol185, (by omega), (by omega), (by omega)⟩
                · have h216 : (decide (T133 = Tn ∧ xs134 = ys)) = true := Bool.not_inj (y := true) h208
                  have ph216 := of_decide_eq_true h216
                  refine WL.rw (t := 139) (v := .bool false) (congrArg Value.bool h208) (k := ?_)
                  refine WL.skip (d := 140) (k := ?_)
                  refine WL.skip (d := 141) (k := ?_)
                  refine WL.op (d := 142) (.bool false) (k := ?_)
                  refine WL.op (d := 143) (.bool false) (k := ?_)
                  refine WL.op (d := 144) (.bool false) (k := ?_)
                  refine WL.op (d := 145) (.int .i64 R) (k := ?_)
                  refine WL.op (d := 146) (.bool (R == 22)) (k := ?_)
                  refine WL.op (d := 147) (.bool (R == 22)) (k := ?_)
                  refine WL.rw (t := 147) (v := .bool false) (congrArg Value.bool h206) (k := ?_)
                  refine WL.skip (d := 148) (k := ?_)
                  refine WL.skip (d := 149) (k := ?_)
                  refine WL.skip (d := 150) (k := ?_)
                  refine WL.skip (d := 151) (k := ?_)
                  refine WL.skip (d := 152) (k := ?_)
                  refine WL.skip (d := 153) (k := ?_)
                  refine WL.skip (d := 154) (k := ?_)
                  refine WL.skip (d := 155) (k := ?_)
                  refine WL.skip (d := 156) (k := ?_)
                  refine WL.skip (d := 157) (k := ?_)
                  refine WL.skip (d := 158) (k := ?_)
                  refine WL.skip (d := 159) (k := ?_)
                  refine WL.op (d := 160) (.bool false) (k := ?_)
                  refine WL.op (d := 161) (.bool false) (k := ?_)
                  refine WL.op (d := 162) (.bool false) (k := ?_)
                  refine WL.op (d := 163) (.int .i64 R) (k := ?_)
                  refine WL.op (d := 164) (.bool (R != 0)) (k := ?_)
                  refine WL.op (d := 165) (.bool (R != 0)) (k := ?_)
                  refine WL.rw (t := 165) (v := .bool true) (congrArg Value.bool h203) (k := ?_)
                  refine WL.op (d := 166) (.int .i64 R) (k := ?_)
                  refine WL.op (d := 167) (.bool (R != 18)) (k := ?_)
                  refine WL.op (d := 168) (.bool (R != 18)) (k := ?_)
                  refine WL.op (d := 169) (.bool (R != 18)) (k := ?_)
                  refine WL.rw (t := 169) (v := .bool false) (congrArg Value.bool h205) (k := ?_)
                  refine WL.skip (d := 170) (k := ?_)
                  refine WL.skip (d := 171) (k := ?_)
                  refine WL.op (d := 172) (.bool false) (k := ?_)
                  refine WL.op (d := 173) (.bool false) (k := ?_)
                  refine WL.nil ?_
                  refine WX.seqN ?_
                  refine WC.condF (k := ?_)
                  refine WC.skip ?_
                  refine WX.seqN ?_
                  refine WC.seq ?_
                  refine WC.region ?_
                  refine WL.load (v := .agg #[.string ⟨(T133).toArray⟩, .slice A129 (List.length xs134) c130]) (ldN (T := 33) (i := 0) (m := 2) (l := [.string ⟨(T133).toArray⟩, .slice A129 (List.length xs134) c130]) hb186) (k := ?_)
                  refine WL.store (v := .agg #[.string ⟨(T133).toArray⟩, .slice A129 (List.length xs134) c130]) (i := 0) (cs' := #[.string ⟨(T133).toArray⟩, .slice A129 (List.length xs134) c130]) hb177 (k := fun w217 hb218 k219 => ?_)
                  replace hb168 := hb168.keeps k219 (fun i hi e => n170 (e ▸ hi))
                  replace hb178 := hb178.keeps k219 (fun i hi e => (hb178.offT hb177 (by decide)) (e ▸ hi))
                  replace hb180 := k219.heap hb180 (Ne.symm n55)
                  replace hb181 := k219.heap hb181 (Ne.symm n67)
                  replace hb182 := hb182.keeps k219 (fun i hi e => (hb182.offT hb177 (by decide)) (e ▸ hi))
                  replace hb184 := hb184.keeps k219 (fun i hi e => (hb184.offT hb177 (by decide)) (e ▸ hi))
                  replace hb186 := k219.heap hb186 (Ne.symm n158)
                  replace K := K.trans' k219 (fun i hi e => absurd (e ▸ hi) (Nat.not_lt.2 z24))
                  clear hb177
                  refine WL.nil ?_
                  refine WX.seqN ?_
                  refine WC.region ?_
                  refine WL.op (d := 175) (.pointer (some ⟨jc, 0, none⟩)) (k := ?_)
                  refine WL.op (d := 5) (.pointer (some ⟨jc, 0, none⟩)) (k := ?_)
                  refine WL.nil ?_
                  refine WX.blockN ?_
                  refine WX.seqN ?_
                  refine WC.region ?_
                  refine WL.op (d := 42) (.int .i64 i) (k := ?_)
                  refine WL.opE (d := 43) (.int .i64 (IntKind.i64.wrap (i + 1))) (v := .int .i64 (i + 1)) (congrArg (Value.int .i64) (IntWalk.i64_in _ (by omega))) (k := ?_)
                  refine WL.op (d := 8) (.int .i64 (i + 1)) (k := ?_)
                  refine WL.nil ?_
                  refine WX.round (i + 1, (q + 1), E132, T133, xs134, rc, jc, A129, c130, So) (by show (14 - (i + 1)).toNat < (14 - i).toNat; omega) ⟨(by kernel_rfl), (by kernel_rfl), (by kernel_rfl), (by kernel_rfl), (by kernel_rfl), (by kernel_rfl), (by kernel_rfl), (by kernel_rfl), (by kernel_rfl), (by kernel_rfl), (by kernel_rfl), (by kernel_rfl), (by kernel_rfl), (by kernel_rfl), (by kernel_rfl), (by kernel_rfl), (by kernel_rfl), (by kernel_rfl), (by kernel_rfl), trivial⟩ ⟨K, hb168, lk169, n170, n175, hb218, hb184, ol185, (by omega), (by omega), (by omega)⟩
              · have ph204 := ne_of_beq_false h204
                have h220 : (R != 18) = true := bne_iff_ne.2 (by omega)
                have h221 : (R == 22) = true := beq_iff_eq.2 (by omega)
                have h222 : (R != 22) = false := bne_eq_false_iff_eq.2 (by omega)
                refine WL.rw (t := 135) (v := .bool false) (congrArg Value.bool h204) (k := ?_)
                refine WL.skip (d := 136) (k := ?_)
                refine WL.skip (d := 137) (k := ?_)
                refine WL.op (d := 138) (.bool false) (k := ?_)
                refine WL.op (d := 139) (.bool false) (k := ?_)
                refine WL.skip (d := 140) (k := ?_)
                refine WL.skip (d := 141) (k := ?_)
                refine WL.op (d := 142) (.bool false) (k := ?_)
                refine WL.op (d := 143) (.bool false) (k := ?_)
                refine WL.op (d := 144) (.bool false) (k := ?_)
                refine WL.op (d := 145) (.int .i64 R) (k := ?_)
                refine WL.op (d := 146) (.bool (R == 22)) (k := ?_)
                refine WL.op (d := 147) (.bool (R == 22)) (k := ?_)
                refine WL.rw (t := 147) (v := .bool true) (congrArg Value.bool h221) (k := ?_)
                refine WL.op (d := 148) (.bool (decide (T133 = T ∧ xs134 = xs))) (k := ?_)
                refine WL.op (d := 149) (.bool (!(decide (T133 = T ∧ xs134 = xs)))) (k := ?_)
                refine WL.op (d := 150) (.bool (!(decide (T133 = T ∧ xs134 = xs)))) (k := ?_)
                refine bsplit (!(decide (T133 = T ∧ xs134 = xs))) (fun h223 => ?_) (fun h223 => ?_)
                · have h224 : (decide (T133 = T ∧ xs134 = xs)) = false := Bool.not_inj (y := false) h223
                  have ph224 := of_decide_eq_false h224
                  refine WL.rw (t := 150) (v := .bool true) (congrArg Value.bool h223) (k := ?_)
                  refine WL.skip (d := 151) (k := ?_)
                  refine WL.skip (d := 152) (k := ?_)
                  refine WL.op (d := 153) (.bool true) (k := ?_)
                  refine WL.op (d := 154) (.bool true) (k := ?_)
                  refine WL.skip (d := 155) (k := ?_)
                  refine WL.skip (d := 156) (k := ?_)
                  refine WL.skip (d := 157) (k := ?_)
                  refine WL.skip (d := 158) (k := ?_)
                  refine WL.op (d := 159) (.bool true) (k := ?_)
                  refine WL.op (d := 160) (.bool true) (k := ?_)
                  refine WL.op (d := 161) (.bool true) (k := ?_)
                  refine WL.op (d := 162) (.bool true) (k := ?_)
                  refine WL.skip (d := 163) (k := ?_)
                  refine WL.skip (d := 164) (k := ?_)
                  refine WL.skip (d := 165) (k := ?_)
                  refine WL.skip (d := 166) (k := ?_)
                  refine WL.skip (d := 167) (k := ?_)
                  refine WL.skip (d := 168) (k := ?_)
                  refine WL.skip (d := 169) (k := ?_)
                  refine WL.skip (d := 170) (k := ?_)
                  refine WL.skip (d := 171) (k := ?_)
                  refine WL.skip (d := 172) (k := ?_)
                  refine WL.op (d := 173) (.bool true) (k := ?_)
                  refine WL.nil ?_
                  refine WX.seqN ?_
                  refine WC.condT (k := ?_)
                  refine WC.seq ?_
                  refine WC.region ?_
                  refine WL.op (d := 2) (.bool false) (k := ?_)
                  refine WL.nil ?_
                  refine WX.seqN ?_
                  refine WC.ret ?_
                  refine WX.seqR ?_
                  refine WX.blockR ?_
                  refine WX.seqR ?_
                  refine WX.seqR ?_
                  refine WX.blockR ?_
                  refine WX.seqR ?_
                  refine WX.ret (rs := [.tmp 2]) [.bool false] (.bool false) ⟨(by kernel_rfl), trivial⟩ (k := ?_)
                  exfalso; rcases ht136 with ⟨q1_, q2_, q3_⟩ | ⟨q1_, ⟨q2_, q3_⟩ | ⟨q2_, q3_⟩⟩ | ⟨q1_, q2_, q3_, q4_, q5_⟩ <;> simp_all
                · have h225 : (decide (T133 = T ∧ xs134 = xs)) = true := Bool.not_inj (y := true) h223
                  have ph225 := of_decide_eq_true h225
                  refine WL.rw (t := 150) (v := .bool false) (congrArg Value.bool h223) (k := ?_)
                  refine WL.op (d := 151) (.pointer (some ⟨b48, 0, none⟩)) (k := ?_)
                  refine WL.load (v := .bool r41.sn) (ld1 (T := 4) (i := 0) hb180) (k := ?_)
                  refine WL.op (d := 153) (.bool r41.sn) (k := ?_)
                  refine WL.op (d := 154) (.bool r41.sn) (k := ?_)
                  refine bsplit r41.sn (fun h226 => ?_) (fun h226 => ?_)
                  · refine WL.rw (t := 154) (v := .bool true) (congrArg Value.bool h226) (k := ?_)
                    refine WL.skip (d := 155) (k := ?_)
                    refine WL.skip (d := 156) (k := ?_)
                    refine WL.skip (d := 157) (k := ?_)
                    refine WL.skip (d := 158) (k := ?_)
                    refine WL.op (d := 159) (.bool true) (k := ?_)
                    refine WL.op (d := 160) (.bool true) (k := ?_)
                    refine WL.op (d := 161) (.bool true) (k := ?_)
                    refine WL.op (d := 162) (.bool true) (k := ?_)
                    refine WL.skip (d := 163) (k := ?_)
                    refine WL.skip (d := 164) (k := ?_)
                    refine WL.skip (d := 165) (k := ?_)
                    refine WL.skip (d := 166) (k := ?_)
                    refine WL.skip (d := 167) (k := ?_)
                    refine WL.skip (d := 168) (k := ?_)
                    refine WL.skip (d := 169) (k := ?_)
                    refine WL.skip (d := 170) (k := ?_)
                    refine WL.skip (d := 171) (k := ?_)
                    refine WL.skip (d := 172) (k := ?_)
                    refine WL.op (d := 173) (.bool true) (k := ?_)
                    refine WL.nil ?_
                    refine WX.seqN ?_
                    refine WC.condT (k := ?_)
                    refine WC.seq ?_
                    refine WC.region ?_
                    refine WL.op (d := 2) (.bool false) (k := ?_)
                    refine WL.nil ?_
                    refine WX.seqN ?_
                    refine WC.ret ?_
                    refine WX.seqR ?_
                    refine WX.blockR ?_
                    refine WX.seqR ?_
                    refine WX.seqR ?_
                    refine WX.blockR ?_
                    refine WX.seqR ?_
                    refine WX.ret (rs := [.tmp 2]) [.bool false] (.bool false) ⟨(by kernel_rfl), trivial⟩ (k := ?_)
                    exfalso; rcases ht136 with ⟨q1_, q2_, q3_⟩ | ⟨q1_, ⟨q2_, q3_⟩ | ⟨q2_, q3_⟩⟩ | ⟨q1_, q2_, q3_, q4_, q5_⟩ <;> simp_all
                  · refine WL.rw (t := 154) (v := .bool false) (congrArg Value.bool h226) (k := ?_)
                    refine WL.op (d := 155) (.pointer (some ⟨b19, 1, none⟩)) (k := ?_)
                    refine WL.load (v := .slice Ah xs.length ch) (ld1 (T := 31) (i := 1) hb177) (k := ?_)
                    refine WL.op (d := 157) (.int .i64 (xs.length : Int)) (k := ?_)
                    refine WL.op (d := 158) (.bool ((xs.length : Int) != 6)) (k := ?_)
                    refine WL.op (d := 159) (.bool ((xs.length : Int) != 6)) (k := ?_)
                    refine WL.op (d := 160) (.bool ((xs.length : Int) != 6)) (k := ?_)
                    refine WL.op (d := 161) (.bool ((xs.length : Int) != 6)) (k := ?_)
                    refine WL.op (d := 162) (.bool ((xs.length : Int) != 6)) (k := ?_)
                    refine bsplit ((xs.length : Int) != 6) (fun h227 => ?_) (fun h227 => ?_)
                    · have ph227 := bne_iff_ne.1 h227
                      refine WL.rw (t := 162) (v := .bool true) (congrArg Value.bool h227) (k := ?_)
                      refine WL.skip (d := 163) (k := ?_)
                      refine WL.skip (d := 164) (k := ?_)
                      refine WL.skip (d := 165) (k := ?_)
                      refine WL.skip (d := 166) (k := ?_)
                      refine WL.skip (d := 167) (k := ?_)
                      refine WL.skip (d := 168) (k := ?_)
                      refine WL.skip (d := 169) (k := ?_)
                      refine WL.skip (d := 170) (k := ?_)
                      refine WL.skip (d := 171) (k := ?_)
                      refine WL.skip (d := 172) (k := ?_)
                      refine WL.op (d := 173) (.bool true) (k := ?_)
                      refine WL.nil ?_
                      refine WX.seqN ?_
                      refine WC.condT (k := ?_)
                      refine WC.seq ?_
                      refine WC.region ?_
                      refine WL.op (d := 2) (.bool false) (k := ?_)
                      refine WL.nil ?_
                      refine WX.seqN ?_
                      refine WC.ret ?_
                      refine WX.seqR ?_
                      refine WX.blockR ?_
                      refine WX.seqR ?_
                      refine WX.seqR ?_
                      refine WX.blockR ?_
                      refine WX.seqR ?_
                      refine WX.ret (rs := [.tmp 2]) [.bool false] (.bool false) ⟨(by kernel_rfl), trivial⟩ (k := ?_)
                      exfalso; rcases ht136 with ⟨q1_, q2_, q3_⟩ | ⟨q1_, ⟨q2_, q3_⟩ | ⟨q2_, q3_⟩⟩ | ⟨q1_, q2_, q3_, q4_, q5_⟩ <;> simp_all
                    · have ph227 := of_bne_false h227
                      refine WL.rw (t := 162) (v := .bool false) (congrArg Value.bool h227) (k := ?_)
                      refine WL.op (d := 163) (.int .i64 R) (k := ?_)
                      refine WL.op (d := 164) (.bool (R != 0)) (k := ?_)
                      refine WL.op (d := 165) (.bool (R != 0)) (k := ?_)
                      refine WL.rw (t := 165) (v := .bool true) (congrArg Value.bool h203) (k := ?_)
                      refine WL.op (d := 166) (.int .i64 R) (k := ?_)
                      refine WL.op (d := 167) (.bool (R != 18)) (k := ?_)
                      refine WL.op (d := 168) (.bool (R != 18)) (k := ?_)
                      refine WL.op (d := 169) (.bool (R != 18)) (k := ?_)
                      refine WL.rw (t := 169) (v := .bool true) (congrArg Value.bool h220) (k := ?_)
                      refine WL.op (d := 170) (.int .i64 R) (k := ?_)
                      refine WL.op (d := 171) (.bool (R != 22)) (k := ?_)
                      refine WL.op (d := 172) (.bool (R != 22)) (k := ?_)
                      refine WL.op (d := 173) (.bool (R != 22)) (k := ?_)
                      refine WL.nil ?_
                      refine WX.seqN ?_
                      refine WC.rw (t := 173) (v := .bool false) (congrArg Value.bool h222) (k := ?_)
                      refine WC.condF (k := ?_)
                      refine WC.skip ?_
                      refine WX.seqN ?_
                      refine WC.seq ?_
                      refine WC.region ?_
                      refine WL.load (v := .agg #[.string ⟨(T133).toArray⟩, .slice A129 (List.length xs134) c130]) (ldN (T := 33) (i := 0) (m := 2) (l := [.string ⟨(T133).toArray⟩, .slice A129 (List.length xs134) c130]) hb186) (k := ?_)
                      refine WL.store (v := .agg #[.string ⟨(T133).toArray⟩, .slice A129 (List.length xs134) c130]) (i := 0) (cs' := #[.string ⟨(T133).toArray⟩, .slice A129 (List.length xs134) c130]) hb177 (k := fun w228 hb229 k230 => ?_)
                      replace hb168 := hb168.keeps k230 (fun i hi e => n170 (e ▸ hi))
                      replace hb178 := hb178.keeps k230 (fun i hi e => (hb178.offT hb177 (by decide)) (e ▸ hi))
                      replace hb180 := k230.heap hb180 (Ne.symm n55)
                      replace hb181 := k230.heap hb181 (Ne.symm n67)
                      replace hb182 := hb182.keeps k230 (fun i hi e => (hb182.offT hb177 (by decide)) (e ▸ hi))
                      replace hb184 := hb184.keeps k230 (fun i hi e => (hb184.offT hb177 (by decide)) (e ▸ hi))
                      replace hb186 := k230.heap hb186 (Ne.symm n158)
                      replace K := K.trans' k230 (fun i hi e => absurd (e ▸ hi) (Nat.not_lt.2 z24))
                      clear hb177
                      refine WL.nil ?_
                      refine WX.seqN ?_
                      refine WC.region ?_
                      refine WL.op (d := 175) (.pointer (some ⟨jc, 0, none⟩)) (k := ?_)
                      refine WL.op (d := 5) (.pointer (some ⟨jc, 0, none⟩)) (k := ?_)
                      refine WL.nil ?_
                      refine WX.blockN ?_
                      refine WX.seqN ?_
                      refine WC.region ?_
                      refine WL.op (d := 42) (.int .i64 i) (k := ?_)
                      refine WL.opE (d := 43) (.int .i64 (IntKind.i64.wrap (i + 1))) (v := .int .i64 (i + 1)) (congrArg (Value.int .i64) (IntWalk.i64_in _ (by omega))) (k := ?_)
                      refine WL.op (d := 8) (.int .i64 (i + 1)) (k := ?_)
                      refine WL.nil ?_
                      refine WX.round (i + 1, (q + 1), E132, T133, xs134, rc, jc, A129, c130, So) (by show (14 - (i + 1)).toNat < (14 - i).toNat; omega) ⟨(by kernel_rfl), (by kernel_rfl), (by kernel_rfl), (by kernel_rfl), (by kernel_rfl), (by kernel_rfl), (by kernel_rfl), (by kernel_rfl), (by kernel_rfl), (by kernel_rfl), (by kernel_rfl), (by kernel_rfl), (by kernel_rfl), (by kernel_rfl), (by kernel_rfl), (by kernel_rfl), (by kernel_rfl), (by kernel_rfl), (by kernel_rfl), trivial⟩ ⟨K, hb168, lk169, n170, n175, hb229, hb184, ol185, (by omega), (by omega), (by omega)⟩
          · refine WC.seq ?_
            refine WC.region ?_
            refine WL.op (d := 98) (.pointer (some ⟨b48, 2, none⟩)) (k := ?_)
            refine WL.load (v := .bool r41.tw) (ld1 (T := 4) (i := 2) hb123) (k := ?_)
            refine WL.nil ?_
            refine WX.seqN ?_
            refine WC.cond (b := r41.tw) (ht := fun h231 => ?_) (hf := fun h231 => ?_)
            · refine WC.seq ?_
              refine WC.region ?_
              refine WL.op (d := 101) (.pointer (some ⟨b4, 0, none⟩)) (k := ?_)
              refine WL.callG (d := 102) (f := 13) (args := #[.pointer (some ⟨b4, 0, none⟩), .int .i64 2]) (jg_open (k := 2) hd137 (.inl rfl)) (k := fun e_ w232 h_ => ?_)
              obtain ⟨jb233, A234, c235, S236, rfl, hd237, ho238, ol239, n240, lk241, k242⟩ := h_
              refine ⟨_, rfl, ?_⟩
              have ol243 := fun i h => Nat.le_trans K.size (ol239 i h)
              have n244 : ¬ S236 b19 := fun h => (lk241 _ h).elim n144 (fun h2 => absurd (lt_of_heap hb120) (Nat.not_lt.2 h2))
              have n245 : ∀ i, blk Ah = some i → ¬ S236 i := fun i hi h => (lk241 _ h).elim (n145 i hi) (fun h2 => absurd (hb121.lt i hi) (Nat.not_lt.2 h2))
              have n246 : ¬ S236 b48 := fun h => (lk241 _ h).elim n146 (fun h2 => absurd (lt_of_heap hb123) (Nat.not_lt.2 h2))
              have n247 : ¬ S236 b60 := fun h => (lk241 _ h).elim n147 (fun h2 => absurd (lt_of_heap hb124) (Nat.not_lt.2 h2))
              have n248 : ∀ i, blk An = some i → ¬ S236 i := fun i hi h => (lk241 _ h).elim (n148 i hi) (fun h2 => absurd (hb125.lt i hi) (Nat.not_lt.2 h2))
              have n249 : ∀ i, blk A129 = some i → ¬ S236 i := fun i hi h => (lk241 _ h).elim (n140 i hi) (fun h2 => absurd (ho138.lt i hi) (Nat.not_lt.2 h2))
              have n250 : ¬ S236 b151 := fun h => (lk241 _ h).elim n157 (fun h2 => absurd (lt_of_heap hb165) (Nat.not_lt.2 h2))
              have lk251 := lk_step lk149 lk241 K
              replace hb120 := k242.heap hb120 n144
              replace hb121 := hb121.keeps k242 n145
              replace hb123 := k242.heap hb123 n146
              replace hb124 := k242.heap hb124 n147
              replace hb125 := hb125.keeps k242 n148
              replace ho138 := ho138.keeps k242 n140
              replace hb165 := k242.heap hb165 n157
              replace K := K.trans' k242 (fun i hi e => (lk149 i e).elim (fun h => h.elim) (fun h => absurd hi (Nat.not_lt.2 h)))
              clear hd137
              change JgAt S236 b4 (⟨2, 6, (q + 1), jb233, 0, (rcN rd135 (opsJ 2 6 xs134)), E132, T133, xs134⟩ : JG) w232 at hd237
              refine WL.op (d := 100) (.tuple #[.pointer (some ⟨jb233, 0, none⟩), .agg #[.string ⟨(T133).toArray⟩, .slice A234 (List.length xs134) c235], .int .i64 0]) (k := ?_)
              refine WL.op (d := 103) (.pointer (some ⟨jb233, 0, none⟩)) (k := ?_)
              refine WL.op (d := 104) (.agg #[.string ⟨(T133).toArray⟩, .slice A234 (List.length xs134) c235]) (k := ?_)
              refine WL.op (d := 105) (.int .i64 0) (k := ?_)
              refine WL.new (d := 17) (T := 33) #[.string ⟨#[]⟩, .slice none 0 0] (k := fun b252 w253 g254 hb255 k256 => ?_)
              have z257 := Nat.le_trans K.size g254
              have n258 : ¬ S236 b252 := fun h => absurd (hd237.lt _ h) (Nat.not_lt.2 g254)
              have n259 : b19 ≠ b252 := Nat.ne_of_lt (Nat.lt_of_lt_of_le (lt_of_heap hb120) g254)
              have n260 := OwAt.off_new hb121 g254
              have n261 : b48 ≠ b252 := Nat.ne_of_lt (Nat.lt_of_lt_of_le (lt_of_heap hb123) g254)
              have n262 : b60 ≠ b252 := Nat.ne_of_lt (Nat.lt_of_lt_of_le (lt_of_heap hb124) g254)
              have n263 := OwAt.off_new hb125 g254
              have n264 := OwAt.off_new ho138 g254
              have n265 : b151 ≠ b252 := Nat.ne_of_lt (Nat.lt_of_lt_of_le (lt_of_heap hb165) g254)
              have n266 := OwAt.off_new ho238 g254
              replace hd237 := hd237.adds k256
              replace hb120 := k256.heap hb120 id
              replace hb121 := hb121.adds k256
              replace hb123 := k256.heap hb123 id
              replace hb124 := k256.heap hb124 id
              replace hb125 := hb125.adds k256
              replace ho138 := ho138.adds k256
              replace hb165 := k256.heap hb165 id
              replace ho238 := ho238.adds k256
              replace K := K.trans (k256.any _)
              refine WL.op (d := 16) (.pointer (some ⟨jb233, 0, none⟩)) (k := ?_)
              refine WL.store (v := .agg #[.string ⟨(T133).toArray⟩, .slice A234 (List.length xs134) c235]) (i := 0) (cs' := #[.string ⟨(T133).toArray⟩, .slice A234 (List.length xs134) c235]) hb255 (k := fun w267 hb268 k269 => ?_)
              replace hd237 := hd237.keeps k269 (fun i hi e => n258 (e ▸ hi))
              replace hb120 := k269.heap hb120 n259
              replace hb121 := hb121.keeps k269 (fun i hi e => (n260) (e ▸ hi))
              replace hb123 := k269.heap hb123 n261
              replace hb124 := k269.heap hb124 n262
              replace hb125 := hb125.keeps k269 (fun i hi e => (n263) (e ▸ hi))
              replace ho138 := ho138.keeps k269 (fun i hi e => (n264) (e ▸ hi))
              replace hb165 := k269.heap hb165 n265
              replace ho238 := ho238.keeps k269 (fun i hi e => (n266) (e ▸ hi))
              replace K := K.trans' k269 (fun i hi e => absurd (e ▸ hi) (Nat.not_lt.2 z257))
              clear hb255
              refine WL.op (d := 18) (.int .i64 0) (k := ?_)
              refine WL.nil ?_
              refine WX.seqN ?_
              refine WC.seq ?_
              refine WC.region ?_
              refine WL.load (v := .agg #[.string ⟨(T133).toArray⟩, .slice A234 (List.length xs134) c235]) (ldN (T := 33) (i := 0) (m := 2) (l := [.string ⟨(T133).toArray⟩, .slice A234 (List.length xs134) c235]) hb268) (k := ?_)
              refine WL.load (v := .agg #[.string ⟨(T133).toArray⟩, .slice A129 (List.length xs134) c130]) (ldN (T := 33) (i := 0) (m := 2) (l := [.string ⟨(T133).toArray⟩, .slice A129 (List.length xs134) c130]) hb165) (k := ?_)
              have h270 : (decide (T133 = T133 ∧ xs134 = xs134)) = true := decide_eq_true ⟨rfl, rfl⟩
              have ph270 := of_decide_eq_true h270
              refine WL.callG (d := 108) (f := 21) (args := #[.agg #[.string ⟨(T133).toArray⟩, .slice A234 (List.length xs134) c235], .agg #[.string ⟨(T133).toArray⟩, .slice A129 (List.length xs134) c130]]) (u08Same_c (s8 := T133) (t8 := T133) (xs := xs134) (ys := xs134) (cp := c235) (cq := c130) (ho238.sl ekStr) (ho138.sl ekStr) (by first | omega | (simp; omega)) (by first | omega | (simp; omega))) (k := fun e_ w271 h_ => ⟨.bool (decide (T133 = T133 ∧ xs134 = xs134)), h_.1, ?_⟩)
              have k272 := h_.2; clear h_
              replace hd237 := hd237.adds k272
              replace hb120 := k272.heap hb120 id
              replace hb121 := hb121.adds k272
              replace hb123 := k272.heap hb123 id
              replace hb124 := k272.heap hb124 id
              replace hb125 := hb125.adds k272
              replace ho138 := ho138.adds k272
              replace hb165 := k272.heap hb165 id
              replace ho238 := ho238.adds k272
              replace hb268 := k272.heap hb268 id
              replace K := K.trans (k272.any _)
              refine WL.op (d := 19) (.bool (decide (T133 = T133 ∧ xs134 = xs134))) (k := ?_)
              refine WL.nil ?_
              refine WX.seqN ?_
              refine WC.seq ?_
              refine WC.seq ?_
              refine WC.region ?_
              refine WL.op (d := 109) (.int .i64 0) (k := ?_)
              refine WL.op (d := 110) (.bool false) (k := ?_)
              refine WL.op (d := 111) (.bool false) (k := ?_)
              refine WL.op (d := 112) (.bool (decide (T133 = T133 ∧ xs134 = xs134))) (k := ?_)
              refine WL.op (d := 113) (.bool (!(decide (T133 = T133 ∧ xs134 = xs134)))) (k := ?_)
              refine WL.op (d := 114) (.bool (!(decide (T133 = T133 ∧ xs134 = xs134)))) (k := ?_)
              refine WL.op (d := 115) (.bool (!(decide (T133 = T133 ∧ xs134 = xs134)))) (k := ?_)
              refine WL.rw (t := 115) (v := .bool false) (congrArg Value.bool (congrArg Bool.not h270)) (k := ?_)
              refine WL.op (d := 116) (.pointer (some ⟨jb233, 0, none⟩)) (k := ?_)
              refine WL.op (d := 117) (.bool false) (k := ?_)
              refine WL.op (d := 118) (.bool false) (k := ?_)
              refine WL.nil ?_
              refine WX.seqN ?_
              refine WC.condF (k := ?_)
              refine WC.skip ?_
              refine WX.seqN ?_
              refine WC.region ?_
              refine WL.op (d := 119) (.pointer (some ⟨jb233, 0, none⟩)) (k := ?_)
              refine WL.op (d := 13) (.pointer (some ⟨jb233, 0, none⟩)) (k := ?_)
              refine WL.nil ?_
              exact WX.joinW (jb233, (rcN rd135 (opsJ 2 6 xs134)), S236) ⟨K, hd237, lk251, n244, n245, n246, n247, n248, n249, n250, hb120, hb121, ol122, hb123, hb124, hb125, ol126, ho138, ol143, hb165⟩ ⟨(by kernel_rfl), (by kernel_rfl), (by kernel_rfl), (by kernel_rfl), (by kernel_rfl), (by kernel_rfl), (by kernel_rfl), (by kernel_rfl), (by kernel_rfl), (by kernel_rfl), (by kernel_rfl), (by kernel_rfl), (by kernel_rfl), (by kernel_rfl), (by kernel_rfl), (by kernel_rfl), (by kernel_rfl), (by kernel_rfl), (by kernel_rfl), (by kernel_rfl), (by kernel_rfl), (by kernel_rfl), (by kernel_rfl), (by kernel_rfl), (by kernel_rfl), (by kernel_rfl), (by kernel_rfl), (by kernel_rfl), (by kernel_rfl), (by kernel_rfl), (by kernel_rfl), (by kernel_rfl), (by kernel_rfl), (by kernel_rfl), (by kernel_rfl), (by kernel_rfl), (by kernel_rfl), (by kernel_rfl), (by kernel_rfl), (by kernel_rfl), (by kernel_rfl), (by kernel_rfl), (by kernel_rfl), (by kernel_rfl), (by kernel_rfl), (by kernel_rfl), (by kernel_rfl), (by kernel_rfl), (by kernel_rfl), (by kernel_rfl), (by kernel_rfl), (by kernel_rfl), (by kernel_rfl), (by kernel_rfl), (by kernel_rfl), trivial⟩
            · refine WC.skip ?_
              exact WX.joinW (jb128, rd135, S131) ⟨K, hd137, lk149, n144, n145, n146, n147, n148, n140, n157, hb120, hb121, ol122, hb123, hb124, hb125, ol126, ho138, ol143, hb165⟩ ⟨(by kernel_rfl), (by kernel_rfl), (by kernel_rfl), (by kernel_rfl), (by kernel_rfl), (by kernel_rfl), (by kernel_rfl), (by kernel_rfl), (by kernel_rfl), (by kernel_rfl), (by kernel_rfl), (by kernel_rfl), (by kernel_rfl), (by kernel_rfl), (by kernel_rfl), (by kernel_rfl), (by kernel_rfl), (by kernel_rfl), (by kernel_rfl), (by kernel_rfl), (by kernel_rfl), (by kernel_rfl), (by kernel_rfl), (by kernel_rfl), (by kernel_rfl), (by kernel_rfl), (by kernel_rfl), (by kernel_rfl), (by kernel_rfl), (by kernel_rfl), (by kernel_rfl), (by kernel_rfl), (by kernel_rfl), (by kernel_rfl), (by kernel_rfl), (by kernel_rfl), (by kernel_rfl), (by kernel_rfl), (by kernel_rfl), (by kernel_rfl), (by kernel_rfl), (by kernel_rfl), (by kernel_rfl), (by kernel_rfl), (by kernel_rfl), (by kernel_rfl), (by kernel_rfl), (by kernel_rfl), (by kernel_rfl), (by kernel_rfl), (by kernel_rfl), (by kernel_rfl), (by kernel_rfl), (by kernel_rfl), (by kernel_rfl), trivial⟩
        · refine WC.seq ?_
          refine WC.region ?_
          refine WL.op (d := 80) (.pointer (some ⟨b48, 1, none⟩)) (k := ?_)
          refine WL.load (v := .bool r41.cr) (ld1 (T := 4) (i := 1) hb97) (k := ?_)
          refine WL.nil ?_
          refine WX.seqN ?_
          refine WC.cond (b := r41.cr) (ht := fun h273 => ?_) (hf := fun h273 => ?_)
          · refine WC.region ?_
            refine WL.op (d := 82) (.pointer (some ⟨b4, 0, none⟩)) (k := ?_)
            refine WL.op (d := 83) (.pointer (some ⟨b48, 5, none⟩)) (k := ?_)
            refine WL.load (v := .slice r41.A r41.fs.length r41.c) (ld1 (T := 43) (i := 5) hb97) (k := ?_)
            refine WL.callG (d := 85) (f := 14) (args := #[.pointer (some ⟨b4, 0, none⟩), .slice r41.A r41.fs.length r41.c]) (jm_crash (fs := r41.fs) (cf := r41.c) hd103 (hf46.adds K) (fun hx p hp hs => (lk111 _ hs).elim (fun h => h) (fun h => absurd (hf46.lt hx p hp) (Nat.not_lt.2 h))) (by omega)) (k := fun e_ w274 h_ => ?_)
            obtain ⟨R275, rfl, S276, hd277, lk278, k279⟩ := h_
            refine ⟨_, rfl, ?_⟩
            have n280 : ¬ S276 b19 := fun h => (lk278 _ h).elim n106 (fun h2 => absurd (lt_of_heap hb94) (Nat.not_lt.2 h2))
            have n281 : ∀ i, blk Ah = some i → ¬ S276 i := fun i hi h => (lk278 _ h).elim (n107 i hi) (fun h2 => absurd (hb95.lt i hi) (Nat.not_lt.2 h2))
            have n282 : ¬ S276 b48 := fun h => (lk278 _ h).elim n108 (fun h2 => absurd (lt_of_heap hb97) (Nat.not_lt.2 h2))
            have n283 : ¬ S276 b60 := fun h => (lk278 _ h).elim n109 (fun h2 => absurd (lt_of_heap hb98) (Nat.not_lt.2 h2))
            have n284 : ∀ i, blk An = some i → ¬ S276 i := fun i hi h => (lk278 _ h).elim (n110 i hi) (fun h2 => absurd (hb99.lt i hi) (Nat.not_lt.2 h2))
            have lk285 := lk_step lk111 lk278 K
            replace hb94 := k279.heap hb94 n106
            replace hb95 := hb95.keeps k279 n107
            replace hb97 := k279.heap hb97 n108
            replace hb98 := k279.heap hb98 n109
            replace hb99 := hb99.keeps k279 n110
            replace K := K.trans' k279 (fun i hi e => (lk111 i e).elim (fun h => h.elim) (fun h => absurd hi (Nat.not_lt.2 h)))
            clear hd103
            refine WL.nil ?_
            exact WX.joinW (S276) ⟨K, hd277, lk285, n280, n281, n282, n283, n284, hb94, hb95, ol96, hb97, hb98, hb99, ol100⟩ ⟨(by kernel_rfl), (by kernel_rfl), (by kernel_rfl), (by kernel_rfl), (by kernel_rfl), (by kernel_rfl), (by kernel_rfl), (by kernel_rfl), (by kernel_rfl), (by kernel_rfl), (by kernel_rfl), (by kernel_rfl), (by kernel_rfl), (by kernel_rfl), (by kernel_rfl), (by kernel_rfl), (by kernel_rfl), (by kernel_rfl), (by kernel_rfl), (by kernel_rfl), (by kernel_rfl), (by kernel_rfl), (by kernel_rfl), (by kernel_rfl), (by kernel_rfl), (by kernel_rfl), (by kernel_rfl), (by kernel_rfl), (by kernel_rfl), (by kernel_rfl), (by kernel_rfl), (by kernel_rfl), (by kernel_rfl), (by kernel_rfl), (by kernel_rfl), (by kernel_rfl), (by kernel_rfl), (by kernel_rfl), (by kernel_rfl), (by kernel_rfl), trivial⟩
          · refine WC.skip ?_
            exact WX.joinW (S102) ⟨K, hd103, lk111, n106, n107, n108, n109, n110, hb94, hb95, ol96, hb97, hb98, hb99, ol100⟩ ⟨(by kernel_rfl), (by kernel_rfl), (by kernel_rfl), (by kernel_rfl), (by kernel_rfl), (by kernel_rfl), (by kernel_rfl), (by kernel_rfl), (by kernel_rfl), (by kernel_rfl), (by kernel_rfl), (by kernel_rfl), (by kernel_rfl), (by kernel_rfl), (by kernel_rfl), (by kernel_rfl), (by kernel_rfl), (by kernel_rfl), (by kernel_rfl), (by kernel_rfl), (by kernel_rfl), (by kernel_rfl), (by kernel_rfl), (by kernel_rfl), (by kernel_rfl), (by kernel_rfl), (by kernel_rfl), (by kernel_rfl), (by kernel_rfl), (by kernel_rfl), (by kernel_rfl), (by kernel_rfl), (by kernel_rfl), (by kernel_rfl), (by kernel_rfl), (by kernel_rfl), (by kernel_rfl), (by kernel_rfl), (by kernel_rfl), (by kernel_rfl), trivial⟩
      · refine WC.seq ?_
        refine WC.region ?_
        refine WL.op (d := 54) (.pointer (some ⟨b48, 0, none⟩)) (k := ?_)
        refine WL.load (v := .bool r41.sn) (ld1 (T := 4) (i := 0) hb58) (k := ?_)
        refine WL.nil ?_
        refine WX.seqN ?_
        refine WC.cond (b := r41.sn) (ht := fun h286 => ?_) (hf := fun h286 => ?_)
        · refine WC.seq ?_
          refine WC.region ?_
          refine WL.op (d := 56) (.pointer (some ⟨b48, 3, none⟩)) (k := ?_)
          refine WL.load (v := .string ⟨(r41.t).toArray⟩) (ld1 (T := 9) (i := 3) hb58) (k := ?_)
          refine WL.callG (d := 58) (f := 17) (args := #[.string ⟨(r41.t).toArray⟩, .int .i64 86]) (l08short_c r41.t 86 (by omega) (by omega) w76) (k := fun e_ w288 h_ => ⟨.string ⟨(List.take 86 r41.t).toArray⟩, h_.1, ?_⟩)
          have k289 := h_.2; clear h_
          replace hd78 := hd78.adds k289
          replace hb34 := k289.heap hb34 id
          replace hb35 := hb35.adds k289
          replace hb58 := k289.heap hb58 id
          replace hb71 := k289.heap hb71 id
          replace K := K.trans (k289.any _)
          have tl287 : (List.take 86 r41.t).length ≤ 86 := List.length_take_le _ _
          refine WL.op (d := 59) (.agg #[.string ⟨(List.take 86 r41.t).toArray⟩, .slice none 0 0]) (k := ?_)
          refine WL.store (v := .agg #[.string ⟨(List.take 86 r41.t).toArray⟩, .slice none 0 0]) (i := 0) (cs' := #[.string ⟨(List.take 86 r41.t).toArray⟩, .slice none 0 0]) hb71 (k := fun w290 hb291 k292 => ?_)
          replace hd78 := hd78.keeps k292 (fun i hi e => n84 (e ▸ hi))
          replace hb34 := k292.heap hb34 n67
          replace hb35 := hb35.keeps k292 (fun i hi e => (n68) (e ▸ hi))
          replace hb58 := k292.heap hb58 n69
          replace K := K.trans' k292 (fun i hi e => absurd (e ▸ hi) (Nat.not_lt.2 z65))
          clear hb71
          refine WL.nil ?_
          refine WX.seqN ?_
          refine WC.region ?_
          refine WL.op (d := 60) (.pointer (some ⟨jb, 0, none⟩)) (k := ?_)
          refine WL.op (d := 61) (.pointer (some ⟨b60, 0, none⟩)) (k := ?_)
          refine WL.load (v := .string ⟨(List.take 86 r41.t).toArray⟩) (ld1 (T := 9) (i := 0) hb291) (k := ?_)
          refine WL.callG (d := 63) (f := 18) (args := #[.pointer (some ⟨jb, 0, none⟩), .string ⟨(List.take 86 r41.t).toArray⟩]) (jm_snap (l := List.take 86 r41.t) hd78 (by omega) (by omega) (by omega)) (k := fun e_ w293 h_ => ?_)
          obtain ⟨R294, rfl, hR295, S296, hd297, lk298, k299⟩ := h_
          refine ⟨_, rfl, ?_⟩
          have n300 : ¬ S296 b19 := fun h => (lk298 _ h).elim n81 (fun h2 => absurd (lt_of_heap hb34) (Nat.not_lt.2 h2))
          have n301 : ∀ i, blk Ah = some i → ¬ S296 i := fun i hi h => (lk298 _ h).elim (n82 i hi) (fun h2 => absurd (hb35.lt i hi) (Nat.not_lt.2 h2))
          have n302 : ¬ S296 b48 := fun h => (lk298 _ h).elim n83 (fun h2 => absurd (lt_of_heap hb58) (Nat.not_lt.2 h2))
          have n303 : ¬ S296 b60 := fun h => (lk298 _ h).elim n84 (fun h2 => absurd (lt_of_heap hb291) (Nat.not_lt.2 h2))
          have lk304 := lk_step lk85 lk298 K
          replace hb34 := k299.heap hb34 n81
          replace hb35 := hb35.keeps k299 n82
          replace hb58 := k299.heap hb58 n83
          replace hb291 := k299.heap hb291 n84
          replace K := K.trans' k299 (fun i hi e => (lk85 i e).elim (fun h => h.elim) (fun h => absurd hi (Nat.not_lt.2 h)))
          clear hd78
          refine WL.op (d := 11) (.int .i64 R294) (k := ?_)
          refine WL.nil ?_
          have hm305 : JmAt false S296 b4 (⟨2, 6, (q + 1), jb, r41.sn, T, xs, (List.take 86 r41.t), [], R294⟩ : JM) w293 := by rw [h286]; exact hd297
          exact WX.joinW (R294, List.take 86 r41.t, ([] : List (List UInt8)), none, 0, S296) ⟨K, hm305, lk304, n300, n301, n302, n303, (by simp [blk]), hb34, hb35, ol36, hb58, hb291, OwAt.nil, (by simp [blk]), (by omega), (by first | (simp; done) | (simp; omega))⟩ ⟨(by kernel_rfl), (by kernel_rfl), (by kernel_rfl), (by kernel_rfl), (by kernel_rfl), (by kernel_rfl), (by kernel_rfl), (by kernel_rfl), (by kernel_rfl), (by kernel_rfl), (by kernel_rfl), (by kernel_rfl), (by kernel_rfl), (by kernel_rfl), (by kernel_rfl), (by kernel_rfl), (by kernel_rfl), (by kernel_rfl), (by kernel_rfl), (by kernel_rfl), (by kernel_rfl), (by kernel_rfl), (by kernel_rfl), (by kernel_rfl), (by kernel_rfl), (by kernel_rfl), (by kernel_rfl), (by kernel_rfl), (by kernel_rfl), (by kernel_rfl), (by kernel_rfl), (by kernel_rfl), (by kernel_rfl), (by kernel_rfl), (by kernel_rfl), (by kernel_rfl), (by kernel_rfl), (by kernel_rfl), (by kernel_rfl), trivial⟩
        · refine WC.seq ?_
          refine WC.region ?_
          refine WL.op (d := 64) (.pointer (some ⟨b48, 3, none⟩)) (k := ?_)
          refine WL.load (v := .string ⟨(r41.t).toArray⟩) (ld1 (T := 9) (i := 3) hb58) (k := ?_)
          refine WL.callG (d := 66) (f := 17) (args := #[.string ⟨(r41.t).toArray⟩, .int .i64 43]) (l08short_c r41.t 43 (by omega) (by omega) w76) (k := fun e_ w307 h_ => ⟨.string ⟨(List.take 43 r41.t).toArray⟩, h_.1, ?_⟩)
          have k308 := h_.2; clear h_
          replace hd78 := hd78.adds k308
          replace hb34 := k308.heap hb34 id
          replace hb35 := hb35.adds k308
          replace hb58 := k308.heap hb58 id
          replace hb71 := k308.heap hb71 id
          replace K := K.trans (k308.any _)
          have tl306 : (List.take 43 r41.t).length ≤ 43 := List.length_take_le _ _
          refine WL.op (d := 12) (.string ⟨(List.take 43 r41.t).toArray⟩) (k := ?_)
          refine WL.nil ?_
          refine WX.seqN ?_
          refine WC.seq ?_
          refine WC.region ?_
          refine WL.newF (d := 67) (T := 9) #[] (fun b => .slice (some ⟨b, 0, none⟩) 0 0) (k := fun b309 w310 g311 hb312 k313 => ?_)
          have z314 := Nat.le_trans K.size g311
          have n315 : ¬ S77 b309 := fun h => absurd (hd78.lt _ h) (Nat.not_lt.2 g311)
          have n316 : b19 ≠ b309 := Nat.ne_of_lt (Nat.lt_of_lt_of_le (lt_of_heap hb34) g311)
          have n317 := OwAt.off_new hb35 g311
          have n318 : b48 ≠ b309 := Nat.ne_of_lt (Nat.lt_of_lt_of_le (lt_of_heap hb58) g311)
          have n319 : b60 ≠ b309 := Nat.ne_of_lt (Nat.lt_of_lt_of_le (lt_of_heap hb71) g311)
          replace hd78 := hd78.adds k313
          replace hb34 := k313.heap hb34 id
          replace hb35 := hb35.adds k313
          replace hb58 := k313.heap hb58 id
          replace hb71 := k313.heap hb71 id
          replace K := K.trans (k313.any _)
          refine WL.op (d := 68) (.pointer (some ⟨b19, 1, none⟩)) (k := ?_)
          refine WL.load (v := .slice Ah xs.length ch) (ld1 (T := 31) (i := 1) hb34) (k := ?_)
          have ho320 := OwAt.empty (cl := strC) (m := 1) hb312
          have ol321 : ∀ i, blk (some ⟨b309, 0, none⟩) = some i → w.heap.size ≤ i := fun i e => by cases e; exact z314
          have n322 : ∀ i, blk Ah = some i → ¬ blk (some ⟨b309, 0, none⟩) = some i := fun i hi e => by cases e; exact n317 hi
          have n323 : ∀ i, blk (some ⟨b309, 0, none⟩) = some i → ¬ S77 i := fun i e => by cases e; exact n315
          have n324 : ¬ blk (some ⟨b309, 0, none⟩) = some b19 := fun e => by cases e; exact n316 rfl
          have n325 : ¬ blk (some ⟨b309, 0, none⟩) = some b48 := fun e => by cases e; exact n318 rfl
          have n326 : ¬ blk (some ⟨b309, 0, none⟩) = some b60 := fun e => by cases e; exact n319 rfl
          refine WL.append (d := 70) (T := 31) (cl := strC) (xs := []) (ys := xs) (c := ch) ekStr ho320 (hb35.sl ekStr) (by first | omega | (simp; omega)) (k := fun A327 c328 w329 ho330 k331 n332 => ?_)
          have ol333 := olink_step ol321 K n332
          have n334 : ∀ i, blk Ah = some i → ¬ blk A327 = some i := fun i hi e => n332.elim (fun n => n322 i hi (n ▸ e)) (fun ⟨k, n, hk⟩ => by rw [n] at e; cases e; exact absurd (hb35.lt _ hi) (Nat.not_lt.2 hk))
          have n335 := fp_step n332 n323 hd78.lt
          have n336 := off_step n332 n324 (lt_of_heap hb34)
          have n337 := off_step n332 n325 (lt_of_heap hb58)
          have n338 := off_step n332 n326 (lt_of_heap hb71)
          replace hd78 := hd78.keeps k331 (fun i hi e => n323 i e hi)
          replace hb34 := k331.heap hb34 n324
          replace hb35 := hb35.keeps k331 n322
          replace hb58 := k331.heap hb58 n325
          replace hb71 := k331.heap hb71 n326
          replace K := K.trans' k331 (fun i hi e => absurd hi (Nat.not_lt.2 (ol321 i e)))
          clear ho320
          refine WL.op (d := 71) (.string ⟨(List.take 43 r41.t).toArray⟩) (k := ?_)
          refine WL.newF (d := 72) (T := 9) #[.string ⟨(List.take 43 r41.t).toArray⟩] (fun b => .slice (some ⟨b, 0, none⟩) 1 1) (k := fun b339 w340 g341 hb342 k343 => ?_)
          have z344 := Nat.le_trans K.size g341
          have n345 : ¬ S77 b339 := fun h => absurd (hd78.lt _ h) (Nat.not_lt.2 g341)
          have n346 : b19 ≠ b339 := Nat.ne_of_lt (Nat.lt_of_lt_of_le (lt_of_heap hb34) g341)
          have n347 := OwAt.off_new hb35 g341
          have n348 : b48 ≠ b339 := Nat.ne_of_lt (Nat.lt_of_lt_of_le (lt_of_heap hb58) g341)
          have n349 : b60 ≠ b339 := Nat.ne_of_lt (Nat.lt_of_lt_of_le (lt_of_heap hb71) g341)
          have n350 := OwAt.off_new ho330 g341
          replace hd78 := hd78.adds k343
          replace hb34 := k343.heap hb34 id
          replace hb35 := hb35.adds k343
          replace hb58 := k343.heap hb58 id
          replace hb71 := k343.heap hb71 id
          replace ho330 := ho330.adds k343
          replace K := K.trans (k343.any _)
          refine WL.append (d := 73) (T := 31) (cl := strC) (xs := [] ++ xs) (ys := [List.take 43 r41.t]) (c := 1) ekStr ho330 (SlAt.of_lit (ys := [List.take 43 r41.t]) ekStr hb342 (by kernel_rfl)) (by first | omega | (simp; omega)) (k := fun A351 c352 w353 ho354 k355 n356 => ?_)
          have ol357 := olink_step ol333 K n356
          have n358 : ∀ i, blk Ah = some i → ¬ blk A351 = some i := fun i hi e => n356.elim (fun n => n334 i hi (n ▸ e)) (fun ⟨k, n, hk⟩ => by rw [n] at e; cases e; exact absurd (hb35.lt _ hi) (Nat.not_lt.2 hk))
          have n359 := fp_step n356 n335 hd78.lt
          have n360 := off_step n356 n336 (lt_of_heap hb34)
          have n361 := off_step n356 n337 (lt_of_heap hb58)
          have n362 := off_step n356 n338 (lt_of_heap hb71)
          replace hd78 := hd78.keeps k355 (fun i hi e => n335 i e hi)
          replace hb34 := k355.heap hb34 n336
          replace hb35 := hb35.keeps k355 n334
          replace hb58 := k355.heap hb58 n337
          replace hb71 := k355.heap hb71 n338
          replace K := K.trans' k355 (fun i hi e => absurd hi (Nat.not_lt.2 (ol333 i e)))
          clear ho330
          refine WL.op (d := 74) (.pointer (some ⟨b60, 1, none⟩)) (k := ?_)
          refine WL.store (v := .slice A351 (([] ++ xs ++ [List.take 43 r41.t]).length) c352) (i := 1) (cs' := #[.string ⟨(T).toArray⟩, .slice A351 (([] ++ xs ++ [List.take 43 r41.t]).length) c352]) hb71 (k := fun w363 hb364 k365 => ?_)
          replace hd78 := hd78.keeps k365 (fun i hi e => n84 (e ▸ hi))
          replace hb34 := k365.heap hb34 n67
          replace hb35 := hb35.keeps k365 (fun i hi e => (n68) (e ▸ hi))
          replace hb58 := k365.heap hb58 n69
          replace ho354 := ho354.keeps k365 (fun i hi e => (n362) (e ▸ hi))
          replace K := K.trans' k365 (fun i hi e => absurd (e ▸ hi) (Nat.not_lt.2 z65))
          clear hb71
          refine WL.nil ?_
          refine WX.seqN ?_
          refine WC.region ?_
          refine WL.op (d := 75) (.pointer (some ⟨jb, 0, none⟩)) (k := ?_)
          refine WL.op (d := 76) (.string ⟨(List.take 43 r41.t).toArray⟩) (k := ?_)
          refine WL.callG (d := 77) (f := 11) (args := #[.pointer (some ⟨jb, 0, none⟩), .string ⟨(List.take 43 r41.t).toArray⟩]) (jm_app (l := List.take 43 r41.t) hd78 (by omega) (by omega) (by omega)) (k := fun e_ w366 h_ => ?_)
          obtain ⟨R367, rfl, hR368, S369, hd370, lk371, k372⟩ := h_
          refine ⟨_, rfl, ?_⟩
          have n373 : ¬ S369 b19 := fun h => (lk371 _ h).elim n81 (fun h2 => absurd (lt_of_heap hb34) (Nat.not_lt.2 h2))
          have n374 : ∀ i, blk Ah = some i → ¬ S369 i := fun i hi h => (lk371 _ h).elim (n82 i hi) (fun h2 => absurd (hb35.lt i hi) (Nat.not_lt.2 h2))
          have n375 : ¬ S369 b48 := fun h => (lk371 _ h).elim n83 (fun h2 => absurd (lt_of_heap hb58) (Nat.not_lt.2 h2))
          have n376 : ¬ S369 b60 := fun h => (lk371 _ h).elim n84 (fun h2 => absurd (lt_of_heap hb364) (Nat.not_lt.2 h2))
          have n377 : ∀ i, blk A351 = some i → ¬ S369 i := fun i hi h => (lk371 _ h).elim (n359 i hi) (fun h2 => absurd (ho354.lt i hi) (Nat.not_lt.2 h2))
          have lk378 := lk_step lk85 lk371 K
          replace hb34 := k372.heap hb34 n81
          replace hb35 := hb35.keeps k372 n82
          replace hb58 := k372.heap hb58 n83
          replace hb364 := k372.heap hb364 n84
          replace ho354 := ho354.keeps k372 n359
          replace K := K.trans' k372 (fun i hi e => (lk85 i e).elim (fun h => h.elim) (fun h => absurd hi (Nat.not_lt.2 h)))
          clear hd78
          refine WL.op (d := 11) (.int .i64 R367) (k := ?_)
          refine WL.nil ?_
          have hm379 : JmAt false S369 b4 (⟨2, 6, (q + 1), jb, r41.sn, T, xs, T, (xs ++ [List.take 43 r41.t]), R367⟩ : JM) w366 := by rw [h286]; exact hd370
          exact WX.joinW (R367, T, [] ++ xs ++ [List.take 43 r41.t], A351, c352, S369) ⟨K, hm379, lk378, n373, n374, n375, n376, n377, hb34, hb35, ol36, hb58, hb364, ho354, ol357, (by omega), (by first | (simp; done) | (simp; omega))⟩ ⟨(by kernel_rfl), (by kernel_rfl), (by kernel_rfl), (by kernel_rfl), (by kernel_rfl), (by kernel_rfl), (by kernel_rfl), (by kernel_rfl), (by kernel_rfl), (by kernel_rfl), (by kernel_rfl), (by kernel_rfl), (by kernel_rfl), (by kernel_rfl), (by kernel_rfl), (by kernel_rfl), (by kernel_rfl), (by kernel_rfl), (by kernel_rfl), (by kernel_rfl), (by kernel_rfl), (by kernel_rfl), (by kernel_rfl), (by kernel_rfl), (by kernel_rfl), (by kernel_rfl), (by kernel_rfl), (by kernel_rfl), (by kernel_rfl), (by kernel_rfl), (by kernel_rfl), (by kernel_rfl), (by kernel_rfl), (by kernel_rfl), (by kernel_rfl), (by kernel_rfl), (by kernel_rfl), (by kernel_rfl), (by kernel_rfl), trivial⟩
    · have ph38 := of_decide_eq_false h38
      refine WC.exit ?_
      refine WX.seqE ?_
      refine WX.seqE ?_
      refine WX.blockE ?_
      refine WX.seqN ?_
      refine WC.seq ?_
      refine WC.region ?_
      refine WL.op (d := 176) (.bool true) (k := ?_)
      refine WL.op (d := 2) (.bool true) (k := ?_)
      refine WL.nil ?_
      refine WX.seqN ?_
      refine WC.ret ?_
      refine WX.ret (rs := [.tmp 2]) [.bool true] (.bool true) ⟨(by kernel_rfl), trivial⟩ (k := ?_)
      exact ⟨rfl, K⟩
  · have ph37 := of_decide_eq_false h37
    refine WL.rw (t := 38) (v := .bool false) (congrArg Value.bool h37) (k := ?_)
    refine WL.skip (d := 39) (k := ?_)
    refine WL.skip (d := 40) (k := ?_)
    refine WL.op (d := 41) (.bool false) (k := ?_)
    refine WL.nil ?_
    refine WX.seqN ?_
    refine WC.condF (k := ?_)
    refine WC.exit ?_
    refine WX.seqE ?_
    refine WX.seqE ?_
    refine WX.blockE ?_
    refine WX.seqN ?_
    refine WC.seq ?_
    refine WC.region ?_
    refine WL.op (d := 176) (.bool true) (k := ?_)
    refine WL.op (d := 2) (.bool true) (k := ?_)
    refine WL.nil ?_
    refine WX.seqN ?_
    refine WC.ret ?_
    refine WX.ret (rs := [.tmp 2]) [.bool true] (.bool true) ⟨(by kernel_rfl), trivial⟩ (k := ?_)
    exact ⟨rfl, K⟩
end Go.Proofs.YtnndkgmcjbnfbaaGreatDoor
