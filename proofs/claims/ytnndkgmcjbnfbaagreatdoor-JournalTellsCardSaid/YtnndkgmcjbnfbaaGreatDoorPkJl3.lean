/- Jl3. -/
import Derived.Test.YtnndkgmcjbnfbaaGreatDoorPk6
import Derived.Test.YtnndkgmcjbnfbaaGreatDoorPkJl2
namespace Go.Proofs.YtnndkgmcjbnfbaaGreatDoor
open Go.RowKit
set_option linter.unusedVariables false
set_option linter.unusedSimpArgs false
set_option maxRecDepth 100000 in
set_option maxHeartbeats 4000000 in
theorem lJournalTells_c {A : Option Addr} {ca : Nat} {tr : List GTry8} {w : World} (hA : SlAt tryC8 6 45 A tr w) (hTr : Tries8Ok tr w) (na : tr.length ≤ 9223372036854775807) : Calls Tryz.prog 5 #[.slice A tr.length ca] w fun e w' => e = .returned (.bool true) ∧ Adds w w' := by
  have K : Keeps (fun _ => False) w w := Keeps.refl _ w
  refine Calls.start Tryz.func5 rfl (by kernel_rfl) ?_
  refine WC.seq ?_
  refine WC.region ?_
  refine WL.op (d := 2) (.bool false) (k := ?_)
  refine WL.nil ?_
  refine WX.seqN ?_
  refine WC.seq ?_
  refine WC.region ?_
  refine WL.callG (d := 17) (f := 8) (args := #[]) (l08awake_c w) (k := fun e_ w1 h_ => ⟨.bool true, h_.1, ?_⟩)
  have k2 := h_.2; clear h_
  replace K := K.trans (k2.any _)
  refine WL.op (d := 3) (.bool true) (k := ?_)
  refine WL.nil ?_
  refine WX.seqN ?_
  refine WC.seq ?_
  refine WC.region ?_
  refine WL.callG (d := 18) (f := 9) (args := #[.int .i64 9]) (dNew_ok (n := 9) (by omega) (by omega) w1) (k := fun e_ w3 h_ => ?_)
  obtain ⟨b4, S5, rfl, g6, hd7, ho8, k9⟩ := h_
  refine ⟨_, rfl, ?_⟩
  have lk10 : ∀ k, S5 k → False ∨ w.heap.size ≤ k := fun k h => .inr (Nat.le_trans K.size (ho8 k h))
  have z11 := Nat.le_trans K.size g6
  replace K := K.trans (k9.any _)
  refine WL.op (d := 4) (.pointer (some ⟨b4, 0, none⟩)) (k := ?_)
  refine WL.nil ?_
  refine WX.seqN ?_
  refine WC.seq ?_
  refine WC.seq ?_
  refine WC.region ?_
  refine WL.op (d := 19) (.pointer (some ⟨b4, 0, none⟩)) (k := ?_)
  refine WL.op (d := 20) (.bool false) (k := ?_)
  refine WL.nil ?_
  refine WX.seqN ?_
  refine WC.condF (k := ?_)
  refine WC.skip ?_
  refine WX.seqN ?_
  refine WC.seq ?_
  refine WC.region ?_
  refine WL.op (d := 22) (.pointer (some ⟨b4, 0, none⟩)) (k := ?_)
  refine WL.callG (d := 23) (f := 10) (args := #[.pointer (some ⟨b4, 0, none⟩), .int .i64 2, .string ⟨#[]⟩]) (jg_format (k := 2) (n := 5) (m := 9) (rd := 0) (l := []) (by omega) hd7 (by omega) (by omega) (by omega) (by omega) (by first | (simp; done) | (simp; omega))) (k := fun e_ w12 h_ => ?_)
  obtain ⟨jb13, rfl, S14, hd15, lk16, k17⟩ := h_
  refine ⟨_, rfl, ?_⟩
  have lk18 := lk_step lk10 lk16 K
  replace K := K.trans' k17 (fun i hi e => (lk10 i e).elim (fun h => h.elim) (fun h => absurd hi (Nat.not_lt.2 h)))
  clear hd7
  refine WL.op (d := 21) (.tuple #[.pointer (some ⟨jb13, 0, none⟩), .int .i64 0]) (k := ?_)
  refine WL.op (d := 24) (.pointer (some ⟨jb13, 0, none⟩)) (k := ?_)
  refine WL.op (d := 25) (.int .i64 0) (k := ?_)
  refine WL.op (d := 5) (.pointer (some ⟨jb13, 0, none⟩)) (k := ?_)
  refine WL.op (d := 6) (.int .i64 0) (k := ?_)
  refine WL.nil ?_
  refine WX.seqN ?_
  refine WC.seq ?_
  refine WC.seq ?_
  refine WC.region ?_
  refine WL.op (d := 26) (.int .i64 0) (k := ?_)
  refine WL.op (d := 27) (.bool false) (k := ?_)
  refine WL.nil ?_
  refine WX.seqN ?_
  refine WC.condF (k := ?_)
  refine WC.skip ?_
  refine WX.seqN ?_
  refine WC.seq ?_
  refine WC.region ?_
  refine WL.op (d := 28) (.agg #[.string ⟨#[]⟩, .slice none 0 0]) (k := ?_)
  refine WL.new (d := 7) (T := 33) #[.string ⟨#[]⟩, .slice none 0 0] (k := fun b19 w20 g21 hb22 k23 => ?_)
  have z24 := Nat.le_trans K.size g21
  have n25 : ¬ S14 b19 := fun h => absurd (hd15.lt _ h) (Nat.not_lt.2 g21)
  replace hd15 := hd15.adds k23
  replace K := K.trans (k23.any _)
  refine WL.store (v := .agg #[.string ⟨#[]⟩, .slice none 0 0]) (i := 0) (cs' := #[.string ⟨#[]⟩, .slice none 0 0]) hb22 (k := fun w26 hb27 k28 => ?_)
  replace hd15 := hd15.keeps k28 (fun i hi e => n25 (e ▸ hi))
  replace K := K.trans' k28 (fun i hi e => absurd (e ▸ hi) (Nat.not_lt.2 z24))
  clear hb22
  refine WL.nil ?_
  refine WX.seqN ?_
  refine WC.seq ?_
  refine WC.region ?_
  refine WL.op (d := 29) (.pointer (some ⟨jb13, 0, none⟩)) (k := ?_)
  refine WL.callG (d := 30) (f := 16) (args := #[.pointer (some ⟨jb13, 0, none⟩)]) (jg_epoch hd15) (k := fun e_ w29 h_ => ⟨.int .u64 ((1 : Nat) : Int), h_.1, ?_⟩)
  have k30 := h_.2; clear h_
  replace hd15 := hd15.adds k30
  replace hb27 := k30.heap hb27 id
  replace K := K.trans (k30.any _)
  refine WL.op (d := 8) (.int .u64 ((1 : Nat) : Int)) (k := ?_)
  refine WL.nil ?_
  refine WX.seqN ?_
  refine WC.seq ?_
  refine WC.seq ?_
  refine WC.region ?_
  refine WL.op (d := 9) (.int .i64 0) (k := ?_)
  refine WL.nil ?_
  refine WX.seqN ?_
  refine WC.block ?_
  refine WC.loop (ι := Int × Nat × (List UInt8) × (List (List UInt8)) × (Option Addr) × Nat × (Nat → Prop)) (fun (⟨i, E, T, xs, Ah, ch, Si⟩ : Int × Nat × (List UInt8) × (List (List UInt8)) × (Option Addr) × Nat × (Nat → Prop)) => [(0, .slice A tr.length ca), (17, .bool true), (3, .bool true), (18, .pointer (some ⟨b4, 0, none⟩)), (4, .pointer (some ⟨b4, 0, none⟩)), (19, .pointer (some ⟨b4, 0, none⟩)), (20, .bool false), (22, .pointer (some ⟨b4, 0, none⟩)), (23, .tuple #[.pointer (some ⟨jb13, 0, none⟩), .int .i64 0]), (21, .tuple #[.pointer (some ⟨jb13, 0, none⟩), .int .i64 0]), (24, .pointer (some ⟨jb13, 0, none⟩)), (25, .int .i64 0), (5, .pointer (some ⟨jb13, 0, none⟩)), (6, .int .i64 0), (26, .int .i64 0), (27, .bool false), (28, .agg #[.string ⟨#[]⟩, .slice none 0 0]), (7, .pointer (some ⟨b19, 0, none⟩)), (29, .pointer (some ⟨jb13, 0, none⟩)), (30, .int .u64 ((1 : Nat) : Int)), (9, .int .i64 i), (8, .int .u64 ((E : Nat) : Int))]) (fun (⟨i, E, T, xs, Ah, ch, Si⟩ : Int × Nat × (List UInt8) × (List (List UInt8)) × (Option Addr) × Nat × (Nat → Prop)) (w_ : World) => (Keeps (fun _ => False) w w_) ∧ (JgAt Si b4 (⟨2, 5, E, jb13, 0, (rcN 0 (2 * 2)), E, T, xs⟩ : JG) w_) ∧ (∀ k, Si k → (fun _ => False) k ∨ w.heap.size ≤ k) ∧ (¬ Si b19) ∧ (∀ i, blk Ah = some i → ¬ Si i) ∧ (w_.heap[b19]? = some (.cells #[.string ⟨(T).toArray⟩, .slice Ah xs.length ch] 33 (0, 0))) ∧ (OwAt strC 1 9 Ah ch xs w_) ∧ (∀ i, blk Ah = some i → w.heap.size ≤ i) ∧ (0 ≤ i) ∧ (i ≤ 20) ∧ ((E : Int) ≤ 1 + i)) (fun (⟨i, E, T, xs, Ah, ch, Si⟩ : Int × Nat × (List UInt8) × (List (List UInt8)) × (Option Addr) × Nat × (Nat → Prop)) => (20 - i).toNat) (0, 1, [], [], none, 0, S14) ⟨(by kernel_rfl), (by kernel_rfl), (by kernel_rfl), (by kernel_rfl), (by kernel_rfl), (by kernel_rfl), (by kernel_rfl), (by kernel_rfl), (by kernel_rfl), (by kernel_rfl), (by kernel_rfl), (by kernel_rfl), (by kernel_rfl), (by kernel_rfl), (by kernel_rfl), (by kernel_rfl), (by kernel_rfl), (by kernel_rfl), (by kernel_rfl), (by kernel_rfl), (by kernel_rfl), (by kernel_rfl), trivial⟩ ⟨K, hd15, lk18, n25, (fun i hi => by simp [blk] at hi), hb27, OwAt.nil, (by simp [blk]), Int.le_refl 0, (by decide), (by decide)⟩ ?_
  rintro ⟨i, E, T, xs, Ah, ch, Si⟩ w31 ⟨K, hb32, lk33, n34, n35, hb36, hb37, ol38, i0, i1, hE⟩
  have hc_ : xs.length ≤ 5 := hb32.cnt
  refine WC.seq ?_
  refine WC.seq ?_
  refine WC.region ?_
  refine WL.op (d := 31) (.int .i64 i) (k := ?_)
  refine WL.op (d := 32) (.slice A tr.length ca) (k := ?_)
  refine WL.op (d := 33) (.int .i64 (tr.length : Int)) (k := ?_)
  refine WL.op (d := 34) (.bool (decide (i < (tr.length : Int)))) (k := ?_)
  refine WL.op (d := 35) (.bool (decide (i < (tr.length : Int)))) (k := ?_)
  refine bsplit (decide (i < (tr.length : Int))) (fun h39 => ?_) (fun h39 => ?_)
  · have ph39 := of_decide_eq_true h39
    refine WL.rw (t := 35) (v := .bool true) (congrArg Value.bool h39) (k := ?_)
    refine WL.op (d := 36) (.int .i64 i) (k := ?_)
    refine WL.op (d := 37) (.bool (decide (i < 20))) (k := ?_)
    refine WL.op (d := 38) (.bool (decide (i < 20))) (k := ?_)
    refine WL.nil ?_
    refine WX.seqN ?_
    refine WC.cond (b := decide (i < 20)) (ht := fun h40 => ?_) (hf := fun h40 => ?_)
    · have ph40 := of_decide_eq_true h40
      refine WC.skip ?_
      refine WX.seqN ?_
      refine WC.seq ?_
      refine WC.block ?_
      refine WC.seq ?_
      refine WC.region ?_
      refine WL.op (d := 41) (.slice A tr.length ca) (k := ?_)
      refine WL.op (d := 42) (.int .i64 i) (k := ?_)
      obtain ⟨b41, o42, r43, hr44, hA45, he46⟩ := SlAt.at hA (i := i) (by omega) (by omega)
      refine WL.rw (t := 41) (v := .slice (some ⟨b41, o42, none⟩) tr.length ca) (congrArg (fun a => Value.slice a tr.length ca) hA45) (k := ?_)
      obtain ⟨ht47, hf48, hl49⟩ := hTr _ (List.mem_of_getElem? hr44)
      refine WL.idx (T := 40) (E := 45) (m := 6) (b := b41) (o := o42) (len := tr.length) (cap := ca) (i := i) (kk := .i64) (d := 43) (by omega) (by omega) (k := ?_)
      refine WL.rw (t := 41) (v := .slice A tr.length ca) (congrArg (fun a => Value.slice a tr.length ca) (Eq.symm hA45)) (k := ?_)
      refine WL.load (v := .agg #[.bool r43.sn, .bool r43.cr, .bool r43.tw, .string ⟨(r43.t).toArray⟩, .int .i64 r43.f, .slice r43.A r43.fs.length r43.c]) ((he46.adds K).ldW (T := 45)) (k := ?_)
      refine WL.new (d := 10) (T := 45) #[.bool false, .bool false, .bool false, .string ⟨#[]⟩, .int .i64 0, .slice none 0 0] (k := fun b50 w51 g52 hb53 k54 => ?_)
      have z55 := Nat.le_trans K.size g52
      have n56 : ¬ Si b50 := fun h => absurd (hb32.lt _ h) (Nat.not_lt.2 g52)
      have n57 : b19 ≠ b50 := Nat.ne_of_lt (Nat.lt_of_lt_of_le (lt_of_heap hb36) g52)
      have n58 := OwAt.off_new hb37 g52
      replace hb32 := hb32.adds k54
      replace hb36 := k54.heap hb36 id
      replace hb37 := hb37.adds k54
      replace K := K.trans (k54.any _)
      refine WL.store (v := .agg #[.bool r43.sn, .bool r43.cr, .bool r43.tw, .string ⟨(r43.t).toArray⟩, .int .i64 r43.f, .slice r43.A r43.fs.length r43.c]) (i := 0) (cs' := #[.bool r43.sn, .bool r43.cr, .bool r43.tw, .string ⟨(r43.t).toArray⟩, .int .i64 r43.f, .slice r43.A r43.fs.length r43.c]) hb53 (k := fun w59 hb60 k61 => ?_)
      replace hb32 := hb32.keeps k61 (fun i hi e => n56 (e ▸ hi))
      replace hb36 := k61.heap hb36 n57
      replace hb37 := hb37.keeps k61 (fun i hi e => (n58) (e ▸ hi))
      replace K := K.trans' k61 (fun i hi e => absurd (e ▸ hi) (Nat.not_lt.2 z55))
      clear hb53
      refine WL.nil ?_
      refine WX.seqN ?_
      refine WC.seq ?_
      refine WC.seq ?_
      refine WC.region ?_
      refine WL.op (d := 45) (.pointer (some ⟨b50, 0, none⟩)) (k := ?_)
      refine WL.load (v := .bool r43.sn) (ld1 (T := 4) (i := 0) hb60) (k := ?_)
      refine WL.nil ?_
      refine WX.seqN ?_
      refine WC.cond (b := r43.sn) (ht := fun h62 => ?_) (hf := fun h62 => ?_)
      · refine WC.seq ?_
        refine WC.region ?_
        refine WL.op (d := 47) (.pointer (some ⟨b50, 3, none⟩)) (k := ?_)
        refine WL.load (v := .string ⟨(r43.t).toArray⟩) (ld1 (T := 9) (i := 3) hb60) (k := ?_)
        refine WL.callG (d := 49) (f := 17) (args := #[.string ⟨(r43.t).toArray⟩, .int .i64 86]) (l08short_c r43.t 86 (by omega) (by omega) w59) (k := fun e_ w64 h_ => ⟨.string ⟨(List.take 86 r43.t).toArray⟩, h_.1, ?_⟩)
        have k65 := h_.2; clear h_
        replace hb32 := hb32.adds k65
        replace hb36 := k65.heap hb36 id
        replace hb37 := hb37.adds k65
        replace hb60 := k65.heap hb60 id
        replace K := K.trans (k65.any _)
        have tl63 : (List.take 86 r43.t).length ≤ 86 := List.length_take_le _ _
        refine WL.op (d := 50) (.agg #[.string ⟨(List.take 86 r43.t).toArray⟩, .slice none 0 0]) (k := ?_)
        refine WL.store (v := .agg #[.string ⟨(List.take 86 r43.t).toArray⟩, .slice none 0 0]) (i := 0) (cs' := #[.string ⟨(List.take 86 r43.t).toArray⟩, .slice none 0 0]) hb36 (k := fun w66 hb67 k68 => ?_)
        replace hb32 := hb32.keeps k68 (fun i hi e => n34 (e ▸ hi))
        replace hb37 := hb37.keeps k68 (fun i hi e => (hb37.offT hb36 (by decide)) (e ▸ hi))
        replace hb60 := k68.heap hb60 (Ne.symm n57)
        replace K := K.trans' k68 (fun i hi e => absurd (e ▸ hi) (Nat.not_lt.2 z24))
        clear hb36
        refine WL.nil ?_
        refine WX.seqN ?_
        refine WC.seq ?_
        refine WC.seq ?_
        refine WC.region ?_
        refine WL.op (d := 51) (.pointer (some ⟨jb13, 0, none⟩)) (k := ?_)
        refine WL.op (d := 52) (.pointer (some ⟨b19, 0, none⟩)) (k := ?_)
        refine WL.load (v := .string ⟨(List.take 86 r43.t).toArray⟩) (ld1 (T := 9) (i := 0) hb67) (k := ?_)
        refine WL.callG (d := 54) (f := 18) (args := #[.pointer (some ⟨jb13, 0, none⟩), .string ⟨(List.take 86 r43.t).toArray⟩]) (jg_snap (l := List.take 86 r43.t) hb32 (by omega) (by omega)) (k := fun e_ w69 h_ => ?_)
        obtain ⟨rfl, S70, hd71, lk72, k73⟩ := h_
        refine ⟨_, rfl, ?_⟩
        have n74 : ¬ S70 b19 := fun h => (lk72 _ h).elim n34 (fun h2 => absurd (lt_of_heap hb67) (Nat.not_lt.2 h2))
        have n75 : ∀ i, blk Ah = some i → ¬ S70 i := fun i hi h => (lk72 _ h).elim (n35 i hi) (fun h2 => absurd (hb37.lt i hi) (Nat.not_lt.2 h2))
        have n76 : ¬ S70 b50 := fun h => (lk72 _ h).elim n56 (fun h2 => absurd (lt_of_heap hb60) (Nat.not_lt.2 h2))
        have lk77 := lk_step lk33 lk72 K
        replace hb67 := k73.heap hb67 n34
        replace hb37 := hb37.keeps k73 n35
        replace hb60 := k73.heap hb60 n56
        replace K := K.trans' k73 (fun i hi e => (lk33 i e).elim (fun h => h.elim) (fun h => absurd hi (Nat.not_lt.2 h)))
        clear hb32
        refine WL.op (d := 55) (.bool false) (k := ?_)
        refine WL.op (d := 56) (.bool false) (k := ?_)
        refine WL.op (d := 57) (.pointer (some ⟨jb13, 0, none⟩)) (k := ?_)
        refine WL.callG (d := 58) (f := 16) (args := #[.pointer (some ⟨jb13, 0, none⟩)]) (jg_epoch hd71) (k := fun e_ w78 h_ => ⟨.int .u64 ((E + 1 : Nat) : Int), h_.1, ?_⟩)
        have k79 := h_.2; clear h_
        replace hd71 := hd71.adds k79
        replace hb67 := k79.heap hb67 id
        replace hb37 := hb37.adds k79
        replace hb60 := k79.heap hb60 id
        replace K := K.trans (k79.any _)
        refine WL.op (d := 59) (.int .u64 ((E : Nat) : Int)) (k := ?_)
        refine WL.opE (d := 60) (.int .u64 (IntKind.u64.wrap (((E : Nat) : Int) + 1))) (v := .int .u64 ((E + 1 : Nat) : Int)) (congrArg (Value.int .u64) (add64 (a := E) (b := 1) (by omega))) (k := ?_)
        refine WL.opE (d := 61) (.bool (((E + 1 : Nat) : Int) != ((E + 1 : Nat) : Int))) (v := .bool false) (congrArg Value.bool (bne_self_eq_false _)) (k := ?_)
        refine WL.op (d := 62) (.bool false) (k := ?_)
        refine WL.nil ?_
        refine WX.seqN ?_
        refine WC.condF (k := ?_)
        refine WC.skip ?_
        refine WX.seqN ?_
        refine WC.region ?_
        refine WL.op (d := 63) (.int .u64 ((E : Nat) : Int)) (k := ?_)
        refine WL.opE (d := 64) (.int .u64 (IntKind.u64.wrap (((E : Nat) : Int) + 1))) (v := .int .u64 ((E + 1 : Nat) : Int)) (congrArg (Value.int .u64) (add64 (a := E) (b := 1) (by omega))) (k := ?_)
        refine WL.op (d := 8) (.int .u64 ((E + 1 : Nat) : Int)) (k := ?_)
        refine WL.nil ?_
        refine WX.seqN ?_
        refine WC.seq ?_
        refine WC.mixed (fun _ => False) 12 (k := fun w80 k81 => ?_)
        replace hd71 := hd71.adds k81
        replace hb67 := k81.heap hb67 id
        replace hb37 := hb37.adds k81
        replace hb60 := k81.heap hb60 id
        replace K := K.trans (k81.any _)
        have KC := Keeps.refl (fun _ => False) w80
        have bh82 := hb67
        have bh83 := hb60
        have Kb := K
        refine WA.quiet2 0 (d := 94) (.pointer (some ⟨jb13, 0, none⟩)) KC (hi := rfl) (k := ?_)
        refine WA.step 1 (hi := rfl) (k := ?_)
        refine WL.callG (d := 95) (f := 19) (args := #[.pointer (some ⟨jb13, 0, none⟩)]) (jg_good hd71) (k := fun e_ w84 h_ => ⟨.bool true, h_.1, ?_⟩)
        have k85 := h_.2; clear h_
        replace hd71 := hd71.adds k85
        replace hb67 := k85.heap hb67 id
        replace hb37 := hb37.adds k85
        replace hb60 := k85.heap hb60 id
        replace K := K.trans (k85.any _)
        replace KC := KC.trans (k85.any _)
        refine WL.nil ?_
        refine WX.nxt KC ?_
        refine WA.quiet2 2 (d := 96) (.bool false) KC (hi := rfl) (k := ?_)
        refine WA.quiet2 3 (d := 97) (.bool false) KC (hi := rfl) (k := ?_)
        refine WA.quiet2 4 (d := 98) (.pointer (some ⟨jb13, 0, none⟩)) KC (hi := rfl) (k := ?_)
        refine WA.quiet2 6 (d := 100) (.pointer (some ⟨b19, 1, none⟩)) KC (hi := rfl) (k := ?_)
        refine WA.quietR2 7 (d := 101) (.slice none 0 0) KC (exec_load (fun w_ k_ => ld1 (T := 31) (i := 1) (k_.heap bh82 id))) (hi := rfl) (k := ?_)
        refine WA.quiet2 8 (d := 102) (.int .i64 0) KC (hi := rfl) (k := ?_)
        refine WA.quiet2 9 (d := 103) (.int .i64 5) KC (hi := rfl) (k := ?_)
        refine WA.step 5 (hi := rfl) (k := ?_)
        refine WL.callG (d := 99) (f := 20) (args := #[.pointer (some ⟨jb13, 0, none⟩)]) (jg_left hd71) (k := fun e_ w86 h_ => ⟨.int .i64 ((5 : Int) - ((List.length ([] : List (List UInt8))) : Int)), h_.1, ?_⟩)
        have k87 := h_.2; clear h_
        replace hd71 := hd71.adds k87
        replace hb67 := k87.heap hb67 id
        replace hb37 := hb37.adds k87
        replace hb60 := k87.heap hb60 id
        replace K := K.trans (k87.any _)
        replace KC := KC.trans (k87.any _)
        refine WL.nil ?_
        refine WX.nxt KC ?_
        refine WA.quiet2 10 (d := 104) (.bool (((5 : Int) - ((List.length ([] : List (List UInt8))) : Int)) != 5)) KC (hi := rfl) (k := ?_)
        refine WA.quiet2 11 (d := 105) (.bool (((5 : Int) - ((List.length ([] : List (List UInt8))) : Int)) != 5)) KC (hi := rfl) (k := ?_)
        refine WA.done (k := ?_)
        clear KC
        refine WX.seqN ?_
        refine WC.cond (b := ((5 : Int) - ((List.length ([] : List (List UInt8))) : Int)) != 5) (ht := fun h88 => ?_) (hf := fun h88 => ?_)
        · have ph88 := bne_iff_ne.1 h88
          refine WC.seq ?_
          refine WC.region ?_
          refine WL.op (d := 2) (.bool false) (k := ?_)
          refine WL.nil ?_
          refine WX.seqN ?_
          refine WC.ret ?_
          refine WX.blockR ?_
          refine WX.seqR ?_
          refine WX.seqR ?_
          refine WX.blockR ?_
          refine WX.seqR ?_
          refine WX.ret (rs := [.tmp 2]) [.bool false] (.bool false) ⟨(by kernel_rfl), trivial⟩ (k := ?_)
          exfalso; first | omega | (simp at *; done) | (simp at *; omega)
        · have ph88 := of_bne_false h88
          refine WC.skip ?_
          refine WX.blockN ?_
          refine WX.seqN ?_
          refine WC.region ?_
          refine WL.op (d := 39) (.int .i64 i) (k := ?_)
          refine WL.opE (d := 40) (.int .i64 (IntKind.i64.wrap (i + 1))) (v := .int .i64 (i + 1)) (congrArg (Value.int .i64) (IntWalk.i64_in _ (by omega))) (k := ?_)
          refine WL.op (d := 9) (.int .i64 (i + 1)) (k := ?_)
          refine WL.nil ?_
          refine WX.round (i + 1, E + 1, List.take 86 r43.t, ([] : List (List UInt8)), none, 0, S70) (by show (20 - (i + 1)).toNat < (20 - i).toNat; omega) ⟨(by kernel_rfl), (by kernel_rfl), (by kernel_rfl), (by kernel_rfl), (by kernel_rfl), (by kernel_rfl), (by kernel_rfl), (by kernel_rfl), (by kernel_rfl), (by kernel_rfl), (by kernel_rfl), (by kernel_rfl), (by kernel_rfl), (by kernel_rfl), (by kernel_rfl), (by kernel_rfl), (by kernel_rfl), (by kernel_rfl), (by kernel_rfl), (by kernel_rfl), (by kernel_rfl), (by kernel_rfl), trivial⟩ ⟨K, hd71, lk77, n74, (by simp [blk]), hb67, OwAt.nil, (by simp [blk]), (by omega), (by omega), (by omega)⟩
      · refine WC.seq ?_
        refine WC.region ?_
        refine WL.op (d := 65) (.pointer (some ⟨b50, 3, none⟩)) (k := ?_)
        refine WL.load (v := .string ⟨(r43.t).toArray⟩) (ld1 (T := 9) (i := 3) hb60) (k := ?_)
        refine WL.callG (d := 67) (f := 17) (args := #[.string ⟨(r43.t).toArray⟩, .int .i64 43]) (l08short_c r43.t 43 (by omega) (by omega) w59) (k := fun e_ w90 h_ => ⟨.string ⟨(List.take 43 r43.t).toArray⟩, h_.1, ?_⟩)
        have k91 := h_.2; clear h_
        replace hb32 := hb32.adds k91
        replace hb36 := k91.heap hb36 id
        replace hb37 := hb37.adds k91
        replace hb60 := k91.heap hb60 id
        replace K := K.trans (k91.any _)
        have tl89 : (List.take 43 r43.t).length ≤ 43 := List.length_take_le _ _
        refine WL.op (d := 11) (.string ⟨(List.take 43 r43.t).toArray⟩) (k := ?_)
        refine WL.nil ?_
        refine WX.seqN ?_
        refine WC.seq ?_
        refine WC.region ?_
        refine WL.op (d := 68) (.pointer (some ⟨jb13, 0, none⟩)) (k := ?_)
        refine WL.op (d := 69) (.string ⟨(List.take 43 r43.t).toArray⟩) (k := ?_)
        refine bsplit (decide ((List.length xs) < 5)) (fun h92 => ?_) (fun h92 => ?_)
        · have ph92 := of_decide_eq_true h92
          refine WL.callG (d := 70) (f := 11) (args := #[.pointer (some ⟨jb13, 0, none⟩), .string ⟨(List.take 43 r43.t).toArray⟩]) (jg_app (R := 0) (ys := xs ++ [List.take 43 r43.t]) (l := List.take 43 r43.t) hb32 (by first | omega | (simp; done)) (.inl ⟨ph92, rfl, rfl⟩)) (k := fun e_ w94 h_ => ?_)
          obtain ⟨rfl, S95, hd96, lk97, k98⟩ := h_
          refine ⟨_, rfl, ?_⟩
          have n99 : ¬ S95 b19 := fun h => (lk97 _ h).elim n34 (fun h2 => absurd (lt_of_heap hb36) (Nat.not_lt.2 h2))
          have n100 : ∀ i, blk Ah = some i → ¬ S95 i := fun i hi h => (lk97 _ h).elim (n35 i hi) (fun h2 => absurd (hb37.lt i hi) (Nat.not_lt.2 h2))
          have n101 : ¬ S95 b50 := fun h => (lk97 _ h).elim n56 (fun h2 => absurd (lt_of_heap hb60) (Nat.not_lt.2 h2))
          have lk102 := lk_step lk33 lk97 K
          replace hb36 := k98.heap hb36 n34
          replace hb37 := hb37.keeps k98 n35
          replace hb60 := k98.heap hb60 n56
          replace K := K.trans' k98 (fun i hi e => (lk33 i e).elim (fun h => h.elim) (fun h => absurd hi (Nat.not_lt.2 h)))
          clear hb32
          have la93 : List.length (xs ++ [List.take 43 r43.t]) = List.length xs + 1 := by simp
          refine WL.op (d := 12) (.int .i64 0) (k := ?_)
          refine WL.nil ?_
          refine WX.seqN ?_
          refine WC.seq ?_
          refine WC.seq ?_
          refine WC.region ?_
          refine WL.op (d := 71) (.int .i64 0) (k := ?_)
          refine WL.op (d := 72) (.bool false) (k := ?_)
          refine WL.op (d := 73) (.pointer (some ⟨b19, 1, none⟩)) (k := ?_)
          refine WL.load (v := .slice Ah xs.length ch) (ld1 (T := 31) (i := 1) hb36) (k := ?_)
          refine WL.op (d := 75) (.int .i64 (xs.length : Int)) (k := ?_)
          refine WL.op (d := 76) (.bool ((xs.length : Int) == 5)) (k := ?_)
          refine WL.op (d := 77) (.bool (!(false == ((xs.length : Int) == 5)))) (k := ?_)
          refine WL.op (d := 78) (.bool (!(false == ((xs.length : Int) == 5)))) (k := ?_)
          refine bsplit (!(false == ((xs.length : Int) == 5))) (fun h103 => ?_) (fun h103 => ?_)
          · have h104 : (false == ((xs.length : Int) == 5)) = false := Bool.not_inj (y := false) h103
            have ph104 := ne_of_beq_false h104
            refine WL.rw (t := 78) (v := .bool true) (congrArg Value.bool h103) (k := ?_)
            refine WL.skip (d := 79) (k := ?_)
            refine WL.skip (d := 80) (k := ?_)
            refine WL.skip (d := 81) (k := ?_)
            refine WL.skip (d := 82) (k := ?_)
            refine WL.skip (d := 83) (k := ?_)
            refine WL.skip (d := 84) (k := ?_)
            refine WL.op (d := 85) (.bool true) (k := ?_)
            refine WL.nil ?_
            refine WX.seqN ?_
            refine WC.condT (k := ?_)
            refine WC.seq ?_
            refine WC.region ?_
            refine WL.op (d := 2) (.bool false) (k := ?_)
            refine WL.nil ?_
            refine WX.seqN ?_
            refine WC.ret ?_
            refine WX.seqR ?_
            refine WX.seqR ?_
            refine WX.blockR ?_
            refine WX.seqR ?_
            refine WX.seqR ?_
            refine WX.blockR ?_
            refine WX.seqR ?_
            refine WX.ret (rs := [.tmp 2]) [.bool false] (.bool false) ⟨(by kernel_rfl), trivial⟩ (k := ?_)
            exfalso; first | omega | (simp at *; done) | (simp at *; omega)
          · have h105 : (false == ((xs.length : Int) == 5)) = true := Bool.not_inj (y := true) h103
            have ph105 := eq_of_beq h105
            refine WL.rw (t := 78) (v := .bool false) (congrArg Value.bool h103) (k := ?_)
            refine WL.op (d := 79) (.int .i64 0) (k := ?_)
            refine WL.op (d := 80) (.bool false) (k := ?_)
            refine WL.op (d := 81) (.bool false) (k := ?_)
            refine WL.skip (d := 82) (k := ?_)
            refine WL.skip (d := 83) (k := ?_)
            refine WL.op (d := 84) (.bool false) (k := ?_)
            refine WL.op (d := 85) (.bool false) (k := ?_)
            refine WL.nil ?_
            refine WX.seqN ?_
            refine WC.condF (k := ?_)
            refine WC.skip ?_
            refine WX.seqN ?_
            refine WC.seq ?_
            refine WC.region ?_
            refine WL.op (d := 86) (.int .i64 0) (k := ?_)
            refine WL.op (d := 87) (.bool true) (k := ?_)
            refine WL.nil ?_
            refine WX.seqN ?_
            refine WC.condT (k := ?_)
            refine WC.region ?_
            refine WL.op (d := 88) (.pointer (some ⟨b19, 1, none⟩)) (k := ?_)
            refine WL.load (v := .slice Ah xs.length ch) (ld1 (T := 31) (i := 1) hb36) (k := ?_)
            refine WL.op (d := 90) (.string ⟨(List.take 43 r43.t).toArray⟩) (k := ?_)
            refine WL.newF (d := 91) (T := 9) #[.string ⟨(List.take 43 r43.t).toArray⟩] (fun b => .slice (some ⟨b, 0, none⟩) 1 1) (k := fun b106 w107 g108 hb109 k110 => ?_)
            have z111 := Nat.le_trans K.size g108
            have n112 : ¬ S95 b106 := fun h => absurd (hd96.lt _ h) (Nat.not_lt.2 g108)
            have n113 : b19 ≠ b106 := Nat.ne_of_lt (Nat.lt_of_lt_of_le (lt_of_heap hb36) g108)
            have n114 := OwAt.off_new hb37 g108
            have n115 : b50 ≠ b106 := Nat.ne_of_lt (Nat.lt_of_lt_of_le (lt_of_heap hb60) g108)
            replace hd96 := hd96.adds k110
            replace hb36 := k110.heap hb36 id
            replace hb37 := hb37.adds k110
            replace hb60 := k110.heap hb60 id
            replace K := K.trans (k110.any _)
            refine WL.append (d := 92) (T := 31) (cl := strC) (xs := xs) (ys := [List.take 43 r43.t]) (c := 1) ekStr hb37 (SlAt.of_lit (ys := [List.take 43 r43.t]) ekStr hb109 (by kernel_rfl)) (by first | omega | (simp; omega)) (k := fun A116 c117 w118 ho119 k120 n121 => ?_)
            have ol122 := olink_step ol38 K n121
            have n123 := fp_step n121 n100 hd96.lt
            have n124 := off_step n121 n58 (lt_of_heap hb60)
            replace hd96 := hd96.keeps k120 (fun i hi e => n100 i e hi)
            replace hb36 := k120.heap hb36 (hb37.offT hb36 (by decide))
            replace hb60 := k120.heap hb60 n58
            replace K := K.trans' k120 (fun i hi e => absurd hi (Nat.not_lt.2 (ol38 i e)))
            clear hb37
            refine WL.op (d := 93) (.pointer (some ⟨b19, 1, none⟩)) (k := ?_)
            refine WL.store (v := .slice A116 ((xs ++ [List.take 43 r43.t]).length) c117) (i := 1) (cs' := #[.string ⟨(T).toArray⟩, .slice A116 ((xs ++ [List.take 43 r43.t]).length) c117]) hb36 (k := fun w125 hb126 k127 => ?_)
            replace hd96 := hd96.keeps k127 (fun i hi e => n99 (e ▸ hi))
            replace ho119 := ho119.keeps k127 (fun i hi e => (ho119.offT hb36 (by decide)) (e ▸ hi))
            replace hb60 := k127.heap hb60 (Ne.symm n57)
            replace K := K.trans' k127 (fun i hi e => absurd (e ▸ hi) (Nat.not_lt.2 z24))
            clear hb36
            refine WL.nil ?_
            refine WX.seqN ?_
            refine WC.seq ?_
            refine WC.mixed (fun _ => False) 12 (k := fun w128 k129 => ?_)
            replace hd96 := hd96.adds k129
            replace hb126 := k129.heap hb126 id
            replace ho119 := ho119.adds k129
            replace hb60 := k129.heap hb60 id
            replace K := K.trans (k129.any _)
            have KC := Keeps.refl (fun _ => False) w128
            have bh130 := hb126
            have bh131 := hb60
            have Kb := K
            refine WA.quiet2 0 (d := 94) (.pointer (some ⟨jb13, 0, none⟩)) KC (hi := rfl) (k := ?_)
            refine WA.step 1 (hi := rfl) (k := ?_)
            refine WL.callG (d := 95) (f := 19) (args := #[.pointer (some ⟨jb13, 0, none⟩)]) (jg_good hd96) (k := fun e_ w132 h_ => ⟨.bool true, h_.1, ?_⟩)
            have k133 := h_.2; clear h_
            replace hd96 := hd96.adds k133
            replace hb126 := k133.heap hb126 id
            replace ho119 := ho119.adds k133
            replace hb60 := k133.heap hb60 id
            replace K := K.trans (k133.any _)
            replace KC := KC.trans (k133.any _)
            refine WL.nil ?_
            refine WX.nxt KC ?_
            refine WA.quiet2 2 (d := 96) (.bool false) KC (hi := rfl) (k := ?_)
            refine WA.quiet2 3 (d := 97) (.bool false) KC (hi := rfl) (k := ?_)
            refine WA.quiet2 4 (d := 98) (.pointer (some ⟨jb13, 0, none⟩)) KC (hi := rfl) (k := ?_)
            refine WA.quiet2 6 (d := 100) (.pointer (some ⟨b19, 1, none⟩)) KC (hi := rfl) (k := ?_)
            refine WA.quietR2 7 (d := 101) (.slice A116 ((xs ++ [List.take 43 r43.t]).length) c117) KC (exec_load (fun w_ k_ => ld1 (T := 31) (i := 1) (k_.heap bh130 id))) (hi := rfl) (k := ?_)
            refine WA.quiet2 8 (d := 102) (.int .i64 ((xs ++ [List.take 43 r43.t]).length : Int)) KC (hi := rfl) (k := ?_)
            refine WA.quiet2 9 (d := 103) (.int .i64 (IntKind.i64.wrap (5 - ((xs ++ [List.take 43 r43.t]).length : Int)))) KC (hi := rfl) (k := ?_)
            refine WA.rw (t := 103) (v := .int .i64 (5 - ((xs ++ [List.take 43 r43.t]).length : Int))) (congrArg (Value.int .i64) (IntWalk.i64_in _ (by omega))) (k := ?_)
            refine WA.step 5 (hi := rfl) (k := ?_)
            refine WL.callG (d := 99) (f := 20) (args := #[.pointer (some ⟨jb13, 0, none⟩)]) (jg_left hd96) (k := fun e_ w134 h_ => ⟨.int .i64 ((5 : Int) - ((List.length (xs ++ [List.take 43 r43.t])) : Int)), h_.1, ?_⟩)
            have k135 := h_.2; clear h_
            replace hd96 := hd96.adds k135
            replace hb126 := k135.heap hb126 id
            replace ho119 := ho119.adds k135
            replace hb60 := k135.heap hb60 id
            replace K := K.trans (k135.any _)
            replace KC := KC.trans (k135.any _)
            refine WL.nil ?_
            refine WX.nxt KC ?_
            refine WA.quiet2 10 (d := 104) (.bool (((5 : Int) - ((List.length (xs ++ [List.take 43 r43.t])) : Int)) != (5 - ((xs ++ [List.take 43 r43.t]).length : Int)))) KC (hi := rfl) (k := ?_)
            refine WA.quiet2 11 (d := 105) (.bool (((5 : Int) - ((List.length (xs ++ [List.take 43 r43.t])) : Int)) != (5 - ((xs ++ [List.take 43 r43.t]).length : Int)))) KC (hi := rfl) (k := ?_)
            refine WA.done (k := ?_)
            clear KC
            refine WX.seqN ?_
            refine WC.cond (b := ((5 : Int) - ((List.length (xs ++ [List.take 43 r43.t])) : Int)) != (5 - ((xs ++ [List.take 43 r43.t]).length : Int))) (ht := fun h136 => ?_) (hf := fun h136 => ?_)
            · have ph136 := bne_iff_ne.1 h136
              refine WC.seq ?_
              refine WC.region ?_
              refine WL.op (d := 2) (.bool false) (k := ?_)
              refine WL.nil ?_
              refine WX.seqN ?_
              refine WC.ret ?_
              refine WX.blockR ?_
              refine WX.seqR ?_
              refine WX.seqR ?_
              refine WX.blockR ?_
              refine WX.seqR ?_
              refine WX.ret (rs := [.tmp 2]) [.bool false] (.bool false) ⟨(by kernel_rfl), trivial⟩ (k := ?_)
              exfalso; first | omega | (simp at *; done) | (simp at *; omega)
            · have ph136 := of_bne_false h136
              refine WC.skip ?_
              refine WX.blockN ?_
              refine WX.seqN ?_
              refine WC.region ?_
              refine WL.op (d := 39) (.int .i64 i) (k := ?_)
              refine WL.opE (d := 40) (.int .i64 (IntKind.i64.wrap (i + 1))) (v := .int .i64 (i + 1)) (congrArg (Value.int .i64) (IntWalk.i64_in _ (by omega))) (k := ?_)
              refine WL.op (d := 9) (.int .i64 (i + 1)) (k := ?_)
              refine WL.nil ?_
              refine WX.round (i + 1, E, T, xs ++ [List.take 43 r43.t], A116, c117, S95) (by show (20 - (i + 1)).toNat < (20 - i).toNat; omega) ⟨(by kernel_rfl), (by kernel_rfl), (by kernel_rfl), (by kernel_rfl), (by kernel_rfl), (by kernel_rfl), (by kernel_rfl), (by kernel_rfl), (by kernel_rfl), (by kernel_rfl), (by kernel_rfl), (by kernel_rfl), (by kernel_rfl), (by kernel_rfl), (by kernel_rfl), (by kernel_rfl), (by kernel_rfl), (by kernel_rfl), (by kernel_rfl), (by kernel_rfl), (by kernel_rfl), (by kernel_rfl), trivial⟩ ⟨K, hd96, lk102, n99, n123, hb126, ho119, ol122, (by omega), (by omega), (by omega)⟩
        · have ph92 := of_decide_eq_false h92
          refine WL.callG (d := 70) (f := 11) (args := #[.pointer (some ⟨jb13, 0, none⟩), .string ⟨(List.take 43 r43.t).toArray⟩]) (jg_app (R := 22) (ys := xs) (l := List.take 43 r43.t) hb32 (by first | omega | (simp; done)) (.inr ⟨ph92, rfl, rfl⟩)) (k := fun e_ w137 h_ => ?_)
          obtain ⟨rfl, S138, hd139, lk140, k141⟩ := h_
          refine ⟨_, rfl, ?_⟩
          have n142 : ¬ S138 b19 := fun h => (lk140 _ h).elim n34 (fun h2 => absurd (lt_of_heap hb36) (Nat.not_lt.2 h2))
          have n143 : ∀ i, blk Ah = some i → ¬ S138 i := fun i hi h => (lk140 _ h).elim (n35 i hi) (fun h2 => absurd (hb37.lt i hi) (Nat.not_lt.2 h2))
          have n144 : ¬ S138 b50 := fun h => (lk140 _ h).elim n56 (fun h2 => absurd (lt_of_heap hb60) (Nat.not_lt.2 h2))
          have lk145 := lk_step lk33 lk140 K
          replace hb36 := k141.heap hb36 n34
          replace hb37 := hb37.keeps k141 n35
          replace hb60 := k141.heap hb60 n56
          replace K := K.trans' k141 (fun i hi e => (lk33 i e).elim (fun h => h.elim) (fun h => absurd hi (Nat.not_lt.2 h)))
          clear hb32
          refine WL.op (d := 12) (.int .i64 22) (k := ?_)
          refine WL.nil ?_
          refine WX.seqN ?_
          refine WC.seq ?_
          refine WC.seq ?_
          refine WC.region ?_
          refine WL.op (d := 71) (.int .i64 22) (k := ?_)
          refine WL.op (d := 72) (.bool true) (k := ?_)
          refine WL.op (d := 73) (.pointer (some ⟨b19, 1, none⟩)) (k := ?_)
          refine WL.load (v := .slice Ah xs.length ch) (ld1 (T := 31) (i := 1) hb36) (k := ?_)
          refine WL.op (d := 75) (.int .i64 (xs.length : Int)) (k := ?_)
          refine WL.op (d := 76) (.bool ((xs.length : Int) == 5)) (k := ?_)
          refine WL.op (d := 77) (.bool (!(true == ((xs.length : Int) == 5)))) (k := ?_)
          refine WL.op (d := 78) (.bool (!(true == ((xs.length : Int) == 5)))) (k := ?_)
          refine bsplit (!(true == ((xs.length : Int) == 5))) (fun h146 => ?_) (fun h146 => ?_)
          · have h147 : (true == ((xs.length : Int) == 5)) = false := Bool.not_inj (y := false) h146
            have ph147 := ne_of_beq_false h147
            refine WL.rw (t := 78) (v := .bool true) (congrArg Value.bool h146) (k := ?_)
            refine WL.skip (d := 79) (k := ?_)
            refine WL.skip (d := 80) (k := ?_)
            refine WL.skip (d := 81) (k := ?_)
            refine WL.skip (d := 82) (k := ?_)
            refine WL.skip (d := 83) (k := ?_)
            refine WL.skip (d := 84) (k := ?_)
            refine WL.op (d := 85) (.bool true) (k := ?_)
            refine WL.nil ?_
            refine WX.seqN ?_
            refine WC.condT (k := ?_)
            refine WC.seq ?_
            refine WC.region ?_
            refine WL.op (d := 2) (.bool false) (k := ?_)
            refine WL.nil ?_
            refine WX.seqN ?_
            refine WC.ret ?_
            refine WX.seqR ?_
            refine WX.seqR ?_
            refine WX.blockR ?_
            refine WX.seqR ?_
            refine WX.seqR ?_
            refine WX.blockR ?_
            refine WX.seqR ?_
            refine WX.ret (rs := [.tmp 2]) [.bool false] (.bool false) ⟨(by kernel_rfl), trivial⟩ (k := ?_)
            exfalso; first | omega | (simp at *; done) | (simp at *; omega)
          · have h148 : (true == ((xs.length : Int) == 5)) = true := Bool.not_inj (y := true) h146
            have ph148 := eq_of_beq h148
            refine WL.rw (t := 78) (v := .bool false) (congrArg Value.bool h146) (k := ?_)
            refine WL.op (d := 79) (.int .i64 22) (k := ?_)
            refine WL.op (d := 80) (.bool true) (k := ?_)
            refine WL.op (d := 81) (.bool true) (k := ?_)
            refine WL.op (d := 82) (.int .i64 22) (k := ?_)
            refine WL.op (d := 83) (.bool false) (k := ?_)
            refine WL.op (d := 84) (.bool false) (k := ?_)
            refine WL.op (d := 85) (.bool false) (k := ?_)
            refine WL.nil ?_
            refine WX.seqN ?_
            refine WC.condF (k := ?_)
            refine WC.skip ?_
            refine WX.seqN ?_
            refine WC.seq ?_
            refine WC.region ?_
            refine WL.op (d := 86) (.int .i64 22) (k := ?_)
            refine WL.op (d := 87) (.bool false) (k := ?_)
            refine WL.nil ?_
            refine WX.seqN ?_
            refine WC.condF (k := ?_)
            refine WC.skip ?_
            refine WX.seqN ?_
            refine WC.seq ?_
            refine WC.mixed (fun _ => False) 12 (k := fun w149 k150 => ?_)
            replace hd139 := hd139.adds k150
            replace hb36 := k150.heap hb36 id
            replace hb37 := hb37.adds k150
            replace hb60 := k150.heap hb60 id
            replace K := K.trans (k150.any _)
            have KC := Keeps.refl (fun _ => False) w149
            have bh151 := hb36
            have bh152 := hb60
            have Kb := K
            refine WA.quiet2 0 (d := 94) (.pointer (some ⟨jb13, 0, none⟩)) KC (hi := rfl) (k := ?_)
            refine WA.step 1 (hi := rfl) (k := ?_)
            refine WL.callG (d := 95) (f := 19) (args := #[.pointer (some ⟨jb13, 0, none⟩)]) (jg_good hd139) (k := fun e_ w153 h_ => ⟨.bool true, h_.1, ?_⟩)
            have k154 := h_.2; clear h_
            replace hd139 := hd139.adds k154
            replace hb36 := k154.heap hb36 id
            replace hb37 := hb37.adds k154
            replace hb60 := k154.heap hb60 id
            replace K := K.trans (k154.any _)
            replace KC := KC.trans (k154.any _)
            refine WL.nil ?_
            refine WX.nxt KC ?_
            refine WA.quiet2 2 (d := 96) (.bool false) KC (hi := rfl) (k := ?_)
            refine WA.quiet2 3 (d := 97) (.bool false) KC (hi := rfl) (k := ?_)
            refine WA.quiet2 4 (d := 98) (.pointer (some ⟨jb13, 0, none⟩)) KC (hi := rfl) (k := ?_)
            refine WA.quiet2 6 (d := 100) (.pointer (some ⟨b19, 1, none⟩)) KC (hi := rfl) (k := ?_)
            refine WA.quietR2 7 (d := 101) (.slice Ah xs.length ch) KC (exec_load (fun w_ k_ => ld1 (T := 31) (i := 1) (k_.heap bh151 id))) (hi := rfl) (k := ?_)
            refine WA.quiet2 8 (d := 102) (.int .i64 (xs.length : Int)) KC (hi := rfl) (k := ?_)
            refine WA.quiet2 9 (d := 103) (.int .i64 (IntKind.i64.wrap (5 - (xs.length : Int)))) KC (hi := rfl) (k := ?_)
            refine WA.rw (t := 103) (v := .int .i64 (5 - (xs.length : Int))) (congrArg (Value.int .i64) (IntWalk.i64_in _ (by omega))) (k := ?_)
            refine WA.step 5 (hi := rfl) (k := ?_)
            refine WL.callG (d := 99) (f := 20) (args := #[.pointer (some ⟨jb13, 0, none⟩)]) (jg_left hd139) (k := fun e_ w155 h_ => ⟨.int .i64 ((5 : Int) - ((List.length xs) : Int)), h_.1, ?_⟩)
            have k156 := h_.2; clear h_
            replace hd139 := hd139.adds k156
            replace hb36 := k156.heap hb36 id
            replace hb37 := hb37.adds k156
            replace hb60 := k156.heap hb60 id
            replace K := K.trans (k156.any _)
            replace KC := KC.trans (k156.any _)
            refine WL.nil ?_
            refine WX.nxt KC ?_
            refine WA.quiet2 10 (d := 104) (.bool (((5 : Int) - ((List.length xs) : Int)) != (5 - (xs.length : Int)))) KC (hi := rfl) (k := ?_)
            refine WA.quiet2 11 (d := 105) (.bool (((5 : Int) - ((List.length xs) : Int)) != (5 - (xs.length : Int)))) KC (hi := rfl) (k := ?_)
            refine WA.done (k := ?_)
            clear KC
            refine WX.seqN ?_
            refine WC.cond (b := ((5 : Int) - ((List.length xs) : Int)) != (5 - (xs.length : Int))) (ht := fun h157 => ?_) (hf := fun h157 => ?_)
            · have ph157 := bne_iff_ne.1 h157
              refine WC.seq ?_
              refine WC.region ?_
              refine WL.op (d := 2) (.bool false) (k := ?_)
              refine WL.nil ?_
              refine WX.seqN ?_
              refine WC.ret ?_
              refine WX.blockR ?_
              refine WX.seqR ?_
              refine WX.seqR ?_
              refine WX.blockR ?_
              refine WX.seqR ?_
              refine WX.ret (rs := [.tmp 2]) [.bool false] (.bool false) ⟨(by kernel_rfl), trivial⟩ (k := ?_)
              exfalso; first | omega | (simp at *; done) | (simp at *; omega)
            · have ph157 := of_bne_false h157
              refine WC.skip ?_
              refine WX.blockN ?_
              refine WX.seqN ?_
              refine WC.region ?_
              refine WL.op (d := 39) (.int .i64 i) (k := ?_)
              refine WL.opE (d := 40) (.int .i64 (IntKind.i64.wrap (i + 1))) (v := .int .i64 (i + 1)) (congrArg (Value.int .i64) (IntWalk.i64_in _ (by omega))) (k := ?_)
              refine WL.op (d := 9) (.int .i64 (i + 1)) (k := ?_)
              refine WL.nil ?_
              refine WX.round (i + 1, E, T, xs, Ah, ch, S138) (by show (20 - (i + 1)).toNat < (20 - i).toNat; omega) ⟨(by kernel_rfl), (by kernel_rfl), (by kernel_rfl), (by kernel_rfl), (by kernel_rfl), (by kernel_rfl), (by kernel_rfl), (by kernel_rfl), (by kernel_rfl), (by kernel_rfl), (by kernel_rfl), (by kernel_rfl), (by kernel_rfl), (by kernel_rfl), (by kernel_rfl), (by kernel_rfl), (by kernel_rfl), (by kernel_rfl), (by kernel_rfl), (by kernel_rfl), (by kernel_rfl), (by kernel_rfl), trivial⟩ ⟨K, hd139, lk145, n142, n143, hb36, hb37, ol38, (by omega), (by omega), (by omega)⟩
    · have ph40 := of_decide_eq_false h40
      refine WC.exit ?_
      refine WX.seqE ?_
      refine WX.seqE ?_
      refine WX.blockE ?_
      refine WX.seqN ?_
      refine WC.seq ?_
      refine WC.region ?_
      refine WL.op (d := 107) (.pointer (some ⟨b4, 0, none⟩)) (k := ?_)
      refine WL.callG (d := 108) (f := 13) (args := #[.pointer (some ⟨b4, 0, none⟩), .int .i64 2]) (jg_open (k := 2) hb32 (.inl rfl)) (k := fun e_ w158 h_ => ?_)
      obtain ⟨jb159, A160, c161, S162, rfl, hd163, ho164, ol165, n166, lk167, k168⟩ := h_
      refine ⟨_, rfl, ?_⟩
      have ol169 := fun i h => Nat.le_trans K.size (ol165 i h)
      have n170 : ¬ S162 b19 := fun h => (lk167 _ h).elim n34 (fun h2 => absurd (lt_of_heap hb36) (Nat.not_lt.2 h2))
      have n171 : ∀ i, blk Ah = some i → ¬ S162 i := fun i hi h => (lk167 _ h).elim (n35 i hi) (fun h2 => absurd (hb37.lt i hi) (Nat.not_lt.2 h2))
      have lk172 := lk_step lk33 lk167 K
      replace hb36 := k168.heap hb36 n34
      replace hb37 := hb37.keeps k168 n35
      replace K := K.trans' k168 (fun i hi e => (lk33 i e).elim (fun h => h.elim) (fun h => absurd hi (Nat.not_lt.2 h)))
      clear hb32
      change JgAt S162 b4 (⟨2, 5, E, jb159, 0, (rcN (rcN 0 (2 * 2)) (opsJ 2 5 xs)), E, T, xs⟩ : JG) w158 at hd163
      refine WL.op (d := 106) (.tuple #[.pointer (some ⟨jb159, 0, none⟩), .agg #[.string ⟨(T).toArray⟩, .slice A160 (List.length xs) c161], .int .i64 0]) (k := ?_)
      refine WL.op (d := 109) (.pointer (some ⟨jb159, 0, none⟩)) (k := ?_)
      refine WL.op (d := 110) (.agg #[.string ⟨(T).toArray⟩, .slice A160 (List.length xs) c161]) (k := ?_)
      refine WL.op (d := 111) (.int .i64 0) (k := ?_)
      refine WL.new (d := 14) (T := 33) #[.string ⟨#[]⟩, .slice none 0 0] (k := fun b173 w174 g175 hb176 k177 => ?_)
      have z178 := Nat.le_trans K.size g175
      have n179 : ¬ S162 b173 := fun h => absurd (hd163.lt _ h) (Nat.not_lt.2 g175)
      have n180 : b19 ≠ b173 := Nat.ne_of_lt (Nat.lt_of_lt_of_le (lt_of_heap hb36) g175)
      have n181 := OwAt.off_new hb37 g175
      have n182 := OwAt.off_new ho164 g175
      replace hd163 := hd163.adds k177
      replace hb36 := k177.heap hb36 id
      replace hb37 := hb37.adds k177
      replace ho164 := ho164.adds k177
      replace K := K.trans (k177.any _)
      refine WL.op (d := 13) (.pointer (some ⟨jb159, 0, none⟩)) (k := ?_)
      refine WL.store (v := .agg #[.string ⟨(T).toArray⟩, .slice A160 (List.length xs) c161]) (i := 0) (cs' := #[.string ⟨(T).toArray⟩, .slice A160 (List.length xs) c161]) hb176 (k := fun w183 hb184 k185 => ?_)
      replace hd163 := hd163.keeps k185 (fun i hi e => n179 (e ▸ hi))
      replace hb36 := k185.heap hb36 n180
      replace hb37 := hb37.keeps k185 (fun i hi e => (n181) (e ▸ hi))
      replace ho164 := ho164.keeps k185 (fun i hi e => (n182) (e ▸ hi))
      replace K := K.trans' k185 (fun i hi e => absurd (e ▸ hi) (Nat.not_lt.2 z178))
      clear hb176
      refine WL.op (d := 15) (.int .i64 0) (k := ?_)
      refine WL.nil ?_
      refine WX.seqN ?_
      refine WC.seq ?_
      refine WC.region ?_
      refine WL.load (v := .agg #[.string ⟨(T).toArray⟩, .slice A160 (List.length xs) c161]) (ldN (T := 33) (i := 0) (m := 2) (l := [.string ⟨(T).toArray⟩, .slice A160 (List.length xs) c161]) hb184) (k := ?_)
      refine WL.load (v := .agg #[.string ⟨(T).toArray⟩, .slice Ah xs.length ch]) (ldN (T := 33) (i := 0) (m := 2) (l := [.string ⟨(T).toArray⟩, .slice Ah xs.length ch]) hb36) (k := ?_)
      have h186 : (decide (T = T ∧ xs = xs)) = true := decide_eq_true ⟨rfl, rfl⟩
      have ph186 := of_decide_eq_true h186
      refine WL.callG (d := 114) (f := 21) (args := #[.agg #[.string ⟨(T).toArray⟩, .slice A160 (List.length xs) c161], .agg #[.string ⟨(T).toArray⟩, .slice Ah xs.length ch]]) (u08Same_c (s8 := T) (t8 := T) (xs := xs) (ys := xs) (cp := c161) (cq := ch) (ho164.sl ekStr) (hb37.sl ekStr) (by first | omega | (simp; omega)) (by first | omega | (simp; omega))) (k := fun e_ w187 h_ => ⟨.bool (decide (T = T ∧ xs = xs)), h_.1, ?_⟩)
      have k188 := h_.2; clear h_
      replace hd163 := hd163.adds k188
      replace hb36 := k188.heap hb36 id
      replace hb37 := hb37.adds k188
      replace ho164 := ho164.adds k188
      replace hb184 := k188.heap hb184 id
      replace K := K.trans (k188.any _)
      refine WL.op (d := 16) (.bool (decide (T = T ∧ xs = xs))) (k := ?_)
      refine WL.nil ?_
      refine WX.seqN ?_
      refine WC.seq ?_
      refine WC.region ?_
      refine WL.op (d := 115) (.bool true) (k := ?_)
      refine WL.op (d := 116) (.bool true) (k := ?_)
      refine WL.op (d := 117) (.int .i64 0) (k := ?_)
      refine WL.op (d := 118) (.bool true) (k := ?_)
      refine WL.op (d := 119) (.bool true) (k := ?_)
      refine WL.op (d := 120) (.bool true) (k := ?_)
      refine WL.op (d := 121) (.bool (decide (T = T ∧ xs = xs))) (k := ?_)
      refine WL.op (d := 122) (.bool (decide (T = T ∧ xs = xs))) (k := ?_)
      refine WL.op (d := 2) (.bool (decide (T = T ∧ xs = xs))) (k := ?_)
      refine WL.nil ?_
      refine WX.seqN ?_
      refine WC.ret ?_
      refine WX.ret (rs := [.tmp 2]) [.bool (decide (T = T ∧ xs = xs))] (.bool (decide (T = T ∧ xs = xs))) ⟨(by kernel_rfl), trivial⟩ (k := ?_)
      exact ⟨ret_bool (by first | (simp; done) | (simp; omega)), K⟩
  · have ph39 := of_decide_eq_false h39
    refine WL.rw (t := 35) (v := .bool false) (congrArg Value.bool h39) (k := ?_)
    refine WL.skip (d := 36) (k := ?_)
    refine WL.skip (d := 37) (k := ?_)
    refine WL.op (d := 38) (.bool false) (k := ?_)
    refine WL.nil ?_
    refine WX.seqN ?_
    refine WC.condF (k := ?_)
    refine WC.exit ?_
    refine WX.seqE ?_
    refine WX.seqE ?_
    refine WX.blockE ?_
    refine WX.seqN ?_
    refine WC.seq ?_
    refine WC.region ?_
    refine WL.op (d := 107) (.pointer (some ⟨b4, 0, none⟩)) (k := ?_)
    refine WL.callG (d := 108) (f := 13) (args := #[.pointer (some ⟨b4, 0, none⟩), .int .i64 2]) (jg_open (k := 2) hb32 (.inl rfl)) (k := fun e_ w189 h_ => ?_)
    obtain ⟨jb190, A191, c192, S193, rfl, hd194, ho195, ol196, n197, lk198, k199⟩ := h_
    refine ⟨_, rfl, ?_⟩
    have ol200 := fun i h => Nat.le_trans K.size (ol196 i h)
    have n201 : ¬ S193 b19 := fun h => (lk198 _ h).elim n34 (fun h2 => absurd (lt_of_heap hb36) (Nat.not_lt.2 h2))
    have n202 : ∀ i, blk Ah = some i → ¬ S193 i := fun i hi h => (lk198 _ h).elim (n35 i hi) (fun h2 => absurd (hb37.lt i hi) (Nat.not_lt.2 h2))
    have lk203 := lk_step lk33 lk198 K
    replace hb36 := k199.heap hb36 n34
    replace hb37 := hb37.keeps k199 n35
    replace K := K.trans' k199 (fun i hi e => (lk33 i e).elim (fun h => h.elim) (fun h => absurd hi (Nat.not_lt.2 h)))
    clear hb32
    change JgAt S193 b4 (⟨2, 5, E, jb190, 0, (rcN (rcN 0 (2 * 2)) (opsJ 2 5 xs)), E, T, xs⟩ : JG) w189 at hd194
    refine WL.op (d := 106) (.tuple #[.pointer (some ⟨jb190, 0, none⟩), .agg #[.string ⟨(T).toArray⟩, .slice A191 (List.length xs) c192], .int .i64 0]) (k := ?_)
    refine WL.op (d := 109) (.pointer (some ⟨jb190, 0, none⟩)) (k := ?_)
    refine WL.op (d := 110) (.agg #[.string ⟨(T).toArray⟩, .slice A191 (List.length xs) c192]) (k := ?_)
    refine WL.op (d := 111) (.int .i64 0) (k := ?_)
    refine WL.new (d := 14) (T := 33) #[.string ⟨#[]⟩, .slice none 0 0] (k := fun b204 w205 g206 hb207 k208 => ?_)
    have z209 := Nat.le_trans K.size g206
    have n210 : ¬ S193 b204 := fun h => absurd (hd194.lt _ h) (Nat.not_lt.2 g206)
    have n211 : b19 ≠ b204 := Nat.ne_of_lt (Nat.lt_of_lt_of_le (lt_of_heap hb36) g206)
    have n212 := OwAt.off_new hb37 g206
    have n213 := OwAt.off_new ho195 g206
    replace hd194 := hd194.adds k208
    replace hb36 := k208.heap hb36 id
    replace hb37 := hb37.adds k208
    replace ho195 := ho195.adds k208
    replace K := K.trans (k208.any _)
    refine WL.op (d := 13) (.pointer (some ⟨jb190, 0, none⟩)) (k := ?_)
    refine WL.store (v := .agg #[.string ⟨(T).toArray⟩, .slice A191 (List.length xs) c192]) (i := 0) (cs' := #[.string ⟨(T).toArray⟩, .slice A191 (List.length xs) c192]) hb207 (k := fun w214 hb215 k216 => ?_)
    replace hd194 := hd194.keeps k216 (fun i hi e => n210 (e ▸ hi))
    replace hb36 := k216.heap hb36 n211
    replace hb37 := hb37.keeps k216 (fun i hi e => (n212) (e ▸ hi))
    replace ho195 := ho195.keeps k216 (fun i hi e => (n213) (e ▸ hi))
    replace K := K.trans' k216 (fun i hi e => absurd (e ▸ hi) (Nat.not_lt.2 z209))
    clear hb207
    refine WL.op (d := 15) (.int .i64 0) (k := ?_)
    refine WL.nil ?_
    refine WX.seqN ?_
    refine WC.seq ?_
    refine WC.region ?_
    refine WL.load (v := .agg #[.string ⟨(T).toArray⟩, .slice A191 (List.length xs) c192]) (ldN (T := 33) (i := 0) (m := 2) (l := [.string ⟨(T).toArray⟩, .slice A191 (List.length xs) c192]) hb215) (k := ?_)
    refine WL.load (v := .agg #[.string ⟨(T).toArray⟩, .slice Ah xs.length ch]) (ldN (T := 33) (i := 0) (m := 2) (l := [.string ⟨(T).toArray⟩, .slice Ah xs.length ch]) hb36) (k := ?_)
    have h217 : (decide (T = T ∧ xs = xs)) = true := decide_eq_true ⟨rfl, rfl⟩
    have ph217 := of_decide_eq_true h217
    refine WL.callG (d := 114) (f := 21) (args := #[.agg #[.string ⟨(T).toArray⟩, .slice A191 (List.length xs) c192], .agg #[.string ⟨(T).toArray⟩, .slice Ah xs.length ch]]) (u08Same_c (s8 := T) (t8 := T) (xs := xs) (ys := xs) (cp := c192) (cq := ch) (ho195.sl ekStr) (hb37.sl ekStr) (by first | omega | (simp; omega)) (by first | omega | (simp; omega))) (k := fun e_ w218 h_ => ⟨.bool (decide (T = T ∧ xs = xs)), h_.1, ?_⟩)
    have k219 := h_.2; clear h_
    replace hd194 := hd194.adds k219
    replace hb36 := k219.heap hb36 id
    replace hb37 := hb37.adds k219
    replace ho195 := ho195.adds k219
    replace hb215 := k219.heap hb215 id
    replace K := K.trans (k219.any _)
    refine WL.op (d := 16) (.bool (decide (T = T ∧ xs = xs))) (k := ?_)
    refine WL.nil ?_
    refine WX.seqN ?_
    refine WC.seq ?_
    refine WC.region ?_
    refine WL.op (d := 115) (.bool true) (k := ?_)
    refine WL.op (d := 116) (.bool true) (k := ?_)
    refine WL.op (d := 117) (.int .i64 0) (k := ?_)
    refine WL.op (d := 118) (.bool true) (k := ?_)
    refine WL.op (d := 119) (.bool true) (k := ?_)
    refine WL.op (d := 120) (.bool true) (k := ?_)
    refine WL.op (d := 121) (.bool (decide (T = T ∧ xs = xs))) (k := ?_)
    refine WL.op (d := 122) (.bool (decide (T = T ∧ xs = xs))) (k := ?_)
    refine WL.op (d := 2) (.bool (decide (T = T ∧ xs = xs))) (k := ?_)
    refine WL.nil ?_
    refine WX.seqN ?_
    refine WC.ret ?_
    refine WX.ret (rs := [.tmp 2]) [.bool (decide (T = T ∧ xs = xs))] (.bool (decide (T = T ∧ xs = xs))) ⟨(by kernel_rfl), trivial⟩ (k := ?_)
    exact ⟨ret_bool (by first | (simp; done) | (simp; omega)), K⟩
end Go.Proofs.YtnndkgmcjbnfbaaGreatDoor
