/- Read. -/
import Derived.Test.YtpkcohhfkeinmaaSt6
import Derived.Test.YtpkcohhfkeinmaaSt1d
namespace Go.Proofs.Ytpkcohhfkeinmaa
open Go.RowKit
set_option linter.unusedVariables false
set_option linter.unusedSimpArgs false

set_option maxRecDepth 100000 in
theorem tRow_c {b : Nat} {st : Option (List UInt8)} {w : World} (hr : RdAt b st w) (hl : stLen st ≤ 1000000000) : Calls Try.prog 63 #[.pointer (some ⟨b, 0, none⟩)] w fun e w' => ∃ (r : GRow) (s : Option (List UInt8)), rdRow st = (r, s) ∧ e = .returned r.val ∧ RdAt b s w' ∧ Keeps (fun k => k = b) w w' ∧ stLen s ≤ 1000000000 := by
  have K : Keeps (fun k => k = b) w w := Keeps.refl _ w
  refine Calls.start Try.func63 rfl (by kernel_rfl) ?_
  refine WC.seq ?_
  refine WC.region ?_
  refine WL.new (d := 2) (T := 53) #[.int .i64 0, .int .i64 0, .int .i64 0, .int .i64 0, .int .i64 0, .bool false] (k := fun b1 w2 g3 hb4 k5 => ?_)
  have z6 := Nat.le_trans K.size g3
  have n7 : b ≠ b1 := Nat.ne_of_lt (Nat.lt_of_lt_of_le hr.lt g3)
  replace hr := hr.keeps k5 id
  replace K := K.trans (k5.any _)
  refine WL.nil ?_
  refine WX.seqN ?_
  refine WC.seq ?_
  refine WC.region ?_
  refine WL.op (d := 4) (.pointer (some ⟨b, 0, none⟩)) (k := ?_)
  refine WL.callG (d := 5) (f := 61) (args := #[.pointer (some ⟨b, 0, none⟩), .int .i64 1023]) (rInt_x 1023 hr hl (by omega) (by omega)) (k := fun e_ w8 h_ => ?_)
  obtain ⟨n9, s10, q11, rfl, hr12, k13, l14, m15⟩ := h_
  refine ⟨_, rfl, ?_⟩
  replace hb4 := k13.heap hb4 (Ne.symm n7)
  replace K := K.trans' k13 (fun i hi e => e)
  clear hr
  refine WL.op (d := 6) (.agg #[.int .i64 (n9 : Int), .int .i64 0, .int .i64 0, .int .i64 0, .int .i64 0]) (k := ?_)
  refine WL.new (d := 3) (T := 44) #[.int .i64 0, .int .i64 0, .int .i64 0, .int .i64 0, .int .i64 0] (k := fun b16 w17 g18 hb19 k20 => ?_)
  have z21 := Nat.le_trans K.size g18
  have n22 : b ≠ b16 := Nat.ne_of_lt (Nat.lt_of_lt_of_le hr12.lt g18)
  have n23 : b1 ≠ b16 := Nat.ne_of_lt (Nat.lt_of_lt_of_le (lt_of_heap hb4) g18)
  replace hr12 := hr12.keeps k20 id
  replace hb4 := k20.heap hb4 id
  replace K := K.trans (k20.any _)
  refine WL.store (v := .agg #[.int .i64 (n9 : Int), .int .i64 0, .int .i64 0, .int .i64 0, .int .i64 0]) (i := 0) (cs' := #[.int .i64 (n9 : Int), .int .i64 0, .int .i64 0, .int .i64 0, .int .i64 0]) hb19 (k := fun w24 hb25 k26 => ?_)
  replace hr12 := hr12.keeps k26 n22
  replace hb4 := k26.heap hb4 n23
  replace K := K.trans' k26 (fun i hi e => absurd (e ▸ hi) (Nat.not_lt.2 z21))
  clear hb19
  refine WL.nil ?_
  refine WX.seqN ?_
  refine WC.seq ?_
  refine WC.region ?_
  refine WL.op (d := 7) (.pointer (some ⟨b, 0, none⟩)) (k := ?_)
  refine WL.callG (d := 8) (f := 85) (args := #[.pointer (some ⟨b, 0, none⟩), .int .u64 2147483648]) (rNum_x 2147483648 hr12 l14 (by omega) (by omega)) (k := fun e_ w27 h_ => ?_)
  obtain ⟨n28, s29, q30, rfl, hr31, k32, l33, m34⟩ := h_
  refine ⟨_, rfl, ?_⟩
  replace hb4 := k32.heap hb4 (Ne.symm n7)
  replace hb25 := k32.heap hb25 (Ne.symm n22)
  replace K := K.trans' k32 (fun i hi e => e)
  clear hr12
  refine WL.opE (d := 9) (.int .i64 (IntKind.i64.wrap (n28 : Int))) (v := .int .i64 (n28 : Int)) (congrArg (Value.int .i64) (IntWalk.i64_in _ (by omega))) (k := ?_)
  refine WL.op (d := 10) (.pointer (some ⟨b16, 1, none⟩)) (k := ?_)
  refine WL.store (v := .int .i64 (n28 : Int)) (i := 1) (cs' := #[.int .i64 (n9 : Int), .int .i64 (n28 : Int), .int .i64 0, .int .i64 0, .int .i64 0]) hb25 (k := fun w35 hb36 k37 => ?_)
  replace hr31 := hr31.keeps k37 n22
  replace hb4 := k37.heap hb4 n23
  replace K := K.trans' k37 (fun i hi e => absurd (e ▸ hi) (Nat.not_lt.2 z21))
  clear hb25
  refine WL.nil ?_
  refine WX.seqN ?_
  refine WC.seq ?_
  refine WC.region ?_
  refine WL.op (d := 11) (.pointer (some ⟨b, 0, none⟩)) (k := ?_)
  refine WL.callG (d := 12) (f := 85) (args := #[.pointer (some ⟨b, 0, none⟩), .int .u64 2147483648]) (rNum_x 2147483648 hr31 l33 (by omega) (by omega)) (k := fun e_ w38 h_ => ?_)
  obtain ⟨n39, s40, q41, rfl, hr42, k43, l44, m45⟩ := h_
  refine ⟨_, rfl, ?_⟩
  replace hb4 := k43.heap hb4 (Ne.symm n7)
  replace hb36 := k43.heap hb36 (Ne.symm n22)
  replace K := K.trans' k43 (fun i hi e => e)
  clear hr31
  refine WL.opE (d := 13) (.int .i64 (IntKind.i64.wrap (n39 : Int))) (v := .int .i64 (n39 : Int)) (congrArg (Value.int .i64) (IntWalk.i64_in _ (by omega))) (k := ?_)
  refine WL.op (d := 14) (.pointer (some ⟨b16, 2, none⟩)) (k := ?_)
  refine WL.store (v := .int .i64 (n39 : Int)) (i := 2) (cs' := #[.int .i64 (n9 : Int), .int .i64 (n28 : Int), .int .i64 (n39 : Int), .int .i64 0, .int .i64 0]) hb36 (k := fun w46 hb47 k48 => ?_)
  replace hr42 := hr42.keeps k48 n22
  replace hb4 := k48.heap hb4 n23
  replace K := K.trans' k48 (fun i hi e => absurd (e ▸ hi) (Nat.not_lt.2 z21))
  clear hb36
  refine WL.nil ?_
  refine WX.seqN ?_
  refine WC.seq ?_
  refine WC.region ?_
  refine WL.op (d := 15) (.pointer (some ⟨b, 0, none⟩)) (k := ?_)
  refine WL.callG (d := 16) (f := 85) (args := #[.pointer (some ⟨b, 0, none⟩), .int .u64 2147483648]) (rNum_x 2147483648 hr42 l44 (by omega) (by omega)) (k := fun e_ w49 h_ => ?_)
  obtain ⟨n50, s51, q52, rfl, hr53, k54, l55, m56⟩ := h_
  refine ⟨_, rfl, ?_⟩
  replace hb4 := k54.heap hb4 (Ne.symm n7)
  replace hb47 := k54.heap hb47 (Ne.symm n22)
  replace K := K.trans' k54 (fun i hi e => e)
  clear hr42
  refine WL.opE (d := 17) (.int .i64 (IntKind.i64.wrap (n50 : Int))) (v := .int .i64 (n50 : Int)) (congrArg (Value.int .i64) (IntWalk.i64_in _ (by omega))) (k := ?_)
  refine WL.op (d := 18) (.pointer (some ⟨b16, 3, none⟩)) (k := ?_)
  refine WL.store (v := .int .i64 (n50 : Int)) (i := 3) (cs' := #[.int .i64 (n9 : Int), .int .i64 (n28 : Int), .int .i64 (n39 : Int), .int .i64 (n50 : Int), .int .i64 0]) hb47 (k := fun w57 hb58 k59 => ?_)
  replace hr53 := hr53.keeps k59 n22
  replace hb4 := k59.heap hb4 n23
  replace K := K.trans' k59 (fun i hi e => absurd (e ▸ hi) (Nat.not_lt.2 z21))
  clear hb47
  refine WL.nil ?_
  refine WX.seqN ?_
  refine WC.seq ?_
  refine WC.region ?_
  refine WL.op (d := 19) (.pointer (some ⟨b, 0, none⟩)) (k := ?_)
  refine WL.callG (d := 20) (f := 61) (args := #[.pointer (some ⟨b, 0, none⟩), .int .i64 15]) (rInt_x 15 hr53 l55 (by omega) (by omega)) (k := fun e_ w60 h_ => ?_)
  obtain ⟨n61, s62, q63, rfl, hr64, k65, l66, m67⟩ := h_
  refine ⟨_, rfl, ?_⟩
  replace hb4 := k65.heap hb4 (Ne.symm n7)
  replace hb58 := k65.heap hb58 (Ne.symm n22)
  replace K := K.trans' k65 (fun i hi e => e)
  clear hr53
  refine WL.op (d := 21) (.pointer (some ⟨b16, 4, none⟩)) (k := ?_)
  refine WL.store (v := .int .i64 (n61 : Int)) (i := 4) (cs' := #[.int .i64 (n9 : Int), .int .i64 (n28 : Int), .int .i64 (n39 : Int), .int .i64 (n50 : Int), .int .i64 (n61 : Int)]) hb58 (k := fun w68 hb69 k70 => ?_)
  replace hr64 := hr64.keeps k70 n22
  replace hb4 := k70.heap hb4 n23
  replace K := K.trans' k70 (fun i hi e => absurd (e ▸ hi) (Nat.not_lt.2 z21))
  clear hb58
  refine WL.nil ?_
  refine WX.seqN ?_
  refine WC.seq ?_
  refine WC.mixed (fun k => k = b) 4 (k := fun w71 k72 => ?_)
  replace hr64 := hr64.keeps k72 id
  replace hb4 := k72.heap hb4 id
  replace hb69 := k72.heap hb69 id
  replace K := K.trans (k72.any _)
  have KC := Keeps.refl (fun k => k = b) w71
  have bh73 := hb4
  have bh74 := hb69
  have Kb := K
  refine WA.quietR 0 (d := 22) (.agg #[.int .i64 (n9 : Int), .int .i64 (n28 : Int), .int .i64 (n39 : Int), .int .i64 (n50 : Int), .int .i64 (n61 : Int)]) KC (exec_load (fun w_ k_ => ldN (T := 44) (i := 0) (m := 5) (l := [.int .i64 (n9 : Int), .int .i64 (n28 : Int), .int .i64 (n39 : Int), .int .i64 (n50 : Int), .int .i64 (n61 : Int)]) (k_.heap bh74 (Ne.symm n22)))) (hi := rfl) (k := ?_)
  refine WA.quiet 1 (d := 23) (.pointer (some ⟨b, 0, none⟩)) KC (hi := rfl) (k := ?_)
  refine WA.step 2 (hi := rfl) (k := ?_)
  refine WL.callG (d := 24) (f := 86) (args := #[.pointer (some ⟨b, 0, none⟩)]) (rFlag_x  hr64 l66 ) (k := fun e_ w75 h_ => ?_)
  obtain ⟨n76, s77, q78, rfl, hr79, k80, l81⟩ := h_
  refine ⟨_, rfl, ?_⟩
  replace hb4 := k80.heap hb4 (Ne.symm n7)
  replace hb69 := k80.heap hb69 (Ne.symm n22)
  replace K := K.trans' k80 (fun i hi e => e)
  replace KC := KC.trans' k80 (fun i hi e => e)
  clear hr64
  refine WL.nil ?_
  refine WX.nxt KC ?_
  refine WA.quiet 3 (d := 25) (.agg #[.int .i64 (n9 : Int), .int .i64 (n28 : Int), .int .i64 (n39 : Int), .int .i64 (n50 : Int), .int .i64 (n61 : Int), .bool n76]) KC (hi := rfl) (k := ?_)
  refine WA.step 4 (hi := rfl) (k := ?_)
  refine WL.store (v := .agg #[.int .i64 (n9 : Int), .int .i64 (n28 : Int), .int .i64 (n39 : Int), .int .i64 (n50 : Int), .int .i64 (n61 : Int), .bool n76]) (i := 0) (cs' := #[.int .i64 (n9 : Int), .int .i64 (n28 : Int), .int .i64 (n39 : Int), .int .i64 (n50 : Int), .int .i64 (n61 : Int), .bool n76]) hb4 (k := fun w83 hb84 k85 => ?_)
  replace hr79 := hr79.keeps k85 n7
  replace hb69 := k85.heap hb69 (Ne.symm n23)
  replace K := K.trans' k85 (fun i hi e => absurd (e ▸ hi) (Nat.not_lt.2 z6))
  clear hb4
  refine WL.nil ?_
  refine WX.nxtL ?_
  refine WA.done (k := ?_)
  clear KC
  refine WX.seqN ?_
  refine WC.ret ?_
  refine WX.ret (rs := [.cell 2 53]) [.agg #[.int .i64 (n9 : Int), .int .i64 (n28 : Int), .int .i64 (n39 : Int), .int .i64 (n50 : Int), .int .i64 (n61 : Int), .bool n76]] (.agg #[.int .i64 (n9 : Int), .int .i64 (n28 : Int), .int .i64 (n39 : Int), .int .i64 (n50 : Int), .int .i64 (n61 : Int), .bool n76]) ⟨⟨_, (by kernel_rfl), ldN (T := 53) (i := 0) (m := 6) (l := [.int .i64 (n9 : Int), .int .i64 (n28 : Int), .int .i64 (n39 : Int), .int .i64 (n50 : Int), .int .i64 (n61 : Int), .bool n76]) hb84⟩, trivial⟩ (k := ?_)
  exact ⟨⟨⟨n9, n28, n39, n50, n61⟩, n76⟩, s77, rdRow_eq q11 q30 q41 q52 q63 q78, rfl, hr79, K, l81⟩

set_option maxRecDepth 100000 in
set_option maxHeartbeats 4000000 in
theorem tRead_c (l : List UInt8) (hl : l.length ≤ 1000000000) (w : World) : Calls Try.prog 25 #[.string ⟨l.toArray⟩] w (TabRes (readT l) w) := by
  have K : Keeps (fun _ => False) w w := Keeps.refl _ w
  refine Calls.start Try.func25 rfl (by kernel_rfl) ?_
  refine WC.seq ?_
  refine WC.region ?_
  refine WL.new (d := 2) (T := 24) #[.slice none 0 0, .int .i64 0] (k := fun b1 w2 g3 hb4 k5 => ?_)
  have z6 := Nat.le_trans K.size g3
  replace K := K.trans (k5.any _)
  refine WL.op (d := 3) (.int .i64 0) (k := ?_)
  refine WL.nil ?_
  refine WX.seqN ?_
  refine WC.scope ?_
  refine WC.seq ?_
  refine WC.region ?_
  refine WL.op (d := 7) (.string ⟨(l).toArray⟩) (k := ?_)
  refine WL.callG (d := 8) (f := 60) (args := #[.string ⟨(l).toArray⟩]) (oRead_x l w2) (k := fun e_ w7 h_ => ?_)
  obtain ⟨b8, g9, rfl, hr10, k11⟩ := h_
  refine ⟨_, rfl, ?_⟩
  have z12 := Nat.le_trans K.size g9
  have n13 : b1 ≠ b8 := Nat.ne_of_lt (Nat.lt_of_lt_of_le (lt_of_heap hb4) g9)
  replace hb4 := k11.heap hb4 id
  replace K := K.trans (k11.any _)
  refine WL.op (d := 4) (.pointer (some ⟨b8, 0, none⟩)) (k := ?_)
  refine WL.nil ?_
  refine WX.seqN ?_
  refine WC.seq ?_
  refine WC.region ?_
  refine WL.op (d := 9) (.pointer (some ⟨b8, 0, none⟩)) (k := ?_)
  refine WL.callG (d := 10) (f := 61) (args := #[.pointer (some ⟨b8, 0, none⟩), .int .i64 3]) (rInt_x 3 hr10 (by show List.length l ≤ _; first | omega | (simp; omega)) (by omega) (by omega)) (k := fun e_ w14 h_ => ?_)
  obtain ⟨n15, s16, q17, rfl, hr18, k19, l20, m21⟩ := h_
  refine ⟨_, rfl, ?_⟩
  replace hb4 := k19.heap hb4 n13
  replace K := K.trans' k19 (fun i hi e => absurd (e ▸ hi) (Nat.not_lt.2 z12))
  clear hr10
  refine WL.op (d := 11) (.agg #[.slice none 0 0, .int .i64 (n15 : Int)]) (k := ?_)
  refine WL.new (d := 5) (T := 24) #[.slice none 0 0, .int .i64 0] (k := fun b22 w23 g24 hb25 k26 => ?_)
  have z27 := Nat.le_trans K.size g24
  have n28 : b1 ≠ b22 := Nat.ne_of_lt (Nat.lt_of_lt_of_le (lt_of_heap hb4) g24)
  have n29 : b8 ≠ b22 := Nat.ne_of_lt (Nat.lt_of_lt_of_le hr18.lt g24)
  replace hb4 := k26.heap hb4 id
  replace hr18 := hr18.keeps k26 id
  replace K := K.trans (k26.any _)
  refine WL.store (v := .agg #[.slice none 0 0, .int .i64 (n15 : Int)]) (i := 0) (cs' := #[.slice none 0 0, .int .i64 (n15 : Int)]) hb25 (k := fun w30 hb31 k32 => ?_)
  replace hb4 := k32.heap hb4 n28
  replace hr18 := hr18.keeps k32 n29
  replace K := K.trans' k32 (fun i hi e => absurd (e ▸ hi) (Nat.not_lt.2 z27))
  clear hb25
  refine WL.nil ?_
  refine WX.seqN ?_
  refine WC.seq ?_
  refine WC.region ?_
  refine WL.op (d := 12) (.pointer (some ⟨b8, 0, none⟩)) (k := ?_)
  refine WL.callG (d := 13) (f := 61) (args := #[.pointer (some ⟨b8, 0, none⟩), .int .i64 16]) (rInt_x 16 hr18 l20 (by omega) (by omega)) (k := fun e_ w33 h_ => ?_)
  obtain ⟨n34, s35, q36, rfl, hr37, k38, l39, m40⟩ := h_
  refine ⟨_, rfl, ?_⟩
  replace hb4 := k38.heap hb4 n13
  replace hb31 := k38.heap hb31 (Ne.symm n29)
  replace K := K.trans' k38 (fun i hi e => absurd (e ▸ hi) (Nat.not_lt.2 z12))
  clear hr18
  refine WL.op (d := 6) (.int .i64 (n34 : Int)) (k := ?_)
  refine WL.nil ?_
  refine WX.seqN ?_
  refine WC.seq ?_
  refine WC.label ?_
  refine WX.seqN ?_
  refine WC.seq ?_
  refine WC.seq ?_
  refine WC.region ?_
  refine WL.op (d := 14) (.int .i64 (n34 : Int)) (k := ?_)
  refine WL.op (d := 15) (.int .i64 0) (k := ?_)
  refine WL.nil ?_
  refine WX.seqN ?_
  refine WC.block ?_
  refine WC.loop (ι := Int × (Option (List UInt8)) × (List GRow) × (Option Addr) × Nat) (fun (⟨i, s, done, Ao, co⟩ : Int × (Option (List UInt8)) × (List GRow) × (Option Addr) × Nat) => [(0, .string ⟨(l).toArray⟩), (2, .pointer (some ⟨b1, 0, none⟩)), (3, .int .i64 0), (7, .string ⟨(l).toArray⟩), (8, .pointer (some ⟨b8, 0, none⟩)), (4, .pointer (some ⟨b8, 0, none⟩)), (9, .pointer (some ⟨b8, 0, none⟩)), (10, .int .i64 (n15 : Int)), (11, .agg #[.slice none 0 0, .int .i64 (n15 : Int)]), (5, .pointer (some ⟨b22, 0, none⟩)), (12, .pointer (some ⟨b8, 0, none⟩)), (13, .int .i64 (n34 : Int)), (6, .int .i64 (n34 : Int)), (14, .int .i64 (n34 : Int)), (15, .int .i64 i)]) (fun (⟨i, s, done, Ao, co⟩ : Int × (Option (List UInt8)) × (List GRow) × (Option Addr) × Nat) (w_ : World) => (Keeps (fun _ => False) w w_) ∧ (w_.heap[b1]? = some (.cells #[.slice none 0 0, .int .i64 0] 24 (0, 0))) ∧ (RdAt b8 s w_) ∧ (stLen s ≤ 1000000000) ∧ (w_.heap[b22]? = some (.cells #[.slice Ao done.length co, .int .i64 (n15 : Int)] 24 (0, 0))) ∧ (OwAt rowC 6 53 Ao co done w_) ∧ (∀ i, blk Ao = some i → w.heap.size ≤ i) ∧ (0 ≤ i) ∧ (i ≤ (n34 : Int)) ∧ ((done.length : Int) ≤ i) ∧ (rdI n34 s35 i done s)) (fun (⟨i, s, done, Ao, co⟩ : Int × (Option (List UInt8)) × (List GRow) × (Option Addr) × Nat) => ((n34 : Int) - i).toNat) (0, s35, [], none, 0) ⟨(by kernel_rfl), (by kernel_rfl), (by kernel_rfl), (by kernel_rfl), (by kernel_rfl), (by kernel_rfl), (by kernel_rfl), (by kernel_rfl), (by kernel_rfl), (by kernel_rfl), (by kernel_rfl), (by kernel_rfl), (by kernel_rfl), (by kernel_rfl), (by kernel_rfl), trivial⟩ ⟨K, hb4, hr37, l39, hb31, OwAt.nil, (by simp [blk]), Int.le_refl 0, (by omega), (Int.le_refl _), rdI_zero _ _⟩ ?_
  rintro ⟨i, s, done, Ao, co⟩ w41 ⟨K, hb42, hb43, l44, hb45, hb46, ol47, i0, i1, hdl, hrd⟩
  refine WC.seq ?_
  refine WC.region ?_
  refine WL.op (d := 16) (.bool (decide (i < (n34 : Int)))) (k := ?_)
  refine WL.nil ?_
  refine WX.seqN ?_
  refine WC.seq ?_
  refine WC.cond (b := decide (i < (n34 : Int))) (ht := fun h48 => ?_) (hf := fun h48 => ?_)
  · have ph48 := of_decide_eq_true h48
    refine WC.skip ?_
    refine WX.seqN ?_
    refine WC.seq ?_
    refine WC.block ?_
    refine WC.seq ?_
    refine WC.seq ?_
    refine WC.region ?_
    refine WL.op (d := 17) (.pointer (some ⟨b8, 0, none⟩)) (k := ?_)
    refine WL.callG (d := 18) (f := 62) (args := #[.pointer (some ⟨b8, 0, none⟩)]) (rGood_any _ _ w41 hb43) (k := fun e_ w_ h_ => ⟨.bool s.isSome, h_.1, ?_⟩)
    obtain ⟨-, rfl⟩ := h_
    refine WL.op (d := 19) (.bool (!(s.isSome))) (k := ?_)
    refine WL.nil ?_
    refine WX.seqN ?_
    refine WC.cond (b := !(s.isSome)) (ht := fun h49 => ?_) (hf := fun h49 => ?_)
    · have h50 : (s.isSome) = false := by simpa using h49
      refine WC.exit ?_
      refine WX.seqE ?_
      refine WX.blockO (by kernel_rfl) ?_
      refine WX.seqE ?_
      refine WX.seqE ?_
      refine WX.blockE ?_
      refine WX.seqN ?_
      refine WC.seq ?_
      refine WC.seq ?_
      refine WC.region ?_
      refine WL.op (d := 28) (.pointer (some ⟨b8, 0, none⟩)) (k := ?_)
      refine WL.callG (d := 29) (f := 64) (args := #[.pointer (some ⟨b8, 0, none⟩)]) (rEnd_any _ _ w41 hb43) (k := fun e_ w_ h_ => ⟨.bool (decide (s = some [])), h_.1, ?_⟩)
      obtain ⟨-, rfl⟩ := h_
      refine WL.op (d := 30) (.bool (!(decide (s = some [])))) (k := ?_)
      refine WL.op (d := 31) (.bool (!(decide (s = some [])))) (k := ?_)
      refine bsplit (!(decide (s = some []))) (fun h51 => ?_) (fun h51 => ?_)
      · have h52 : (decide (s = some [])) = false := by simpa using h51
        have ph52 := of_decide_eq_false h52
        refine WL.rw (t := 31) (v := .bool true) (congrArg Value.bool h51) (k := ?_)
        refine WL.skip (d := 32) (k := ?_)
        refine WL.skip (d := 33) (k := ?_)
        refine WL.skip (d := 34) (k := ?_)
        refine WL.op (d := 35) (.bool true) (k := ?_)
        refine WL.nil ?_
        refine WX.seqN ?_
        refine WC.condT (k := ?_)
        refine WC.seq ?_
        refine WC.region ?_
        refine WL.op (d := 36) (.agg #[.slice none 0 0, .int .i64 0]) (k := ?_)
        refine WL.store (v := .agg #[.slice none 0 0, .int .i64 0]) (i := 0) (cs' := #[.slice none 0 0, .int .i64 0]) hb42 (k := fun w53 hb54 k55 => ?_)
        replace hb43 := hb43.keeps k55 (Ne.symm n13)
        replace hb45 := k55.heap hb45 (Ne.symm n28)
        replace hb46 := hb46.keeps k55 (fun i hi e => (hb46.offT hb42 (by decide)) (e ▸ hi))
        replace K := K.trans' k55 (fun i hi e => absurd (e ▸ hi) (Nat.not_lt.2 z6))
        clear hb42
        refine WL.op (d := 3) (.int .i64 10) (k := ?_)
        refine WL.nil ?_
        refine WX.seqN ?_
        refine WC.ret ?_
        refine WX.seqR ?_
        refine WX.scopeR ?_
        refine WX.ret (rs := [.cell 2 24, .tmp 3]) [.agg #[.slice none 0 0, .int .i64 0], .int .i64 10] (.tuple #[.agg #[.slice none 0 0, .int .i64 0], .int .i64 10]) ⟨⟨_, (by kernel_rfl), ldN (T := 24) (i := 0) (m := 2) (l := [.slice none 0 0, .int .i64 0]) hb54⟩, (by kernel_rfl), trivial⟩ (k := ?_)
        exact TabRes.nil (readT_bad q17 q36 hrd h50).symm rfl K
      · have h56 : (decide (s = some [])) = true := by simpa using h51
        have ph56 := of_decide_eq_true h56
        refine WL.rw (t := 31) (v := .bool false) (congrArg Value.bool h51) (k := ?_)
        refine WL.load (v := .agg #[.slice Ao done.length co, .int .i64 (n15 : Int)]) (ldN (T := 24) (i := 0) (m := 2) (l := [.slice Ao done.length co, .int .i64 (n15 : Int)]) hb45) (k := ?_)
        refine WL.callG (d := 33) (f := 36) (args := #[.agg #[.slice Ao done.length co, .int .i64 (n15 : Int)]]) (tCheck_c (cp := co) (hb46.sl ekRow) (by first | omega | simp | (simp; omega))) (k := fun e_ w57 h_ => ⟨.bool (tokB (⟨done, (n15 : Int)⟩ : GTable)), h_.1, ?_⟩)
        have k58 := h_.2; clear h_
        replace hb42 := k58.heap hb42 id
        replace hb43 := hb43.keeps k58 id
        replace hb45 := k58.heap hb45 id
        replace hb46 := hb46.adds k58
        replace K := K.trans (k58.any _)
        refine WL.op (d := 34) (.bool (!(tokB (⟨done, (n15 : Int)⟩ : GTable)))) (k := ?_)
        refine WL.op (d := 35) (.bool (!(tokB (⟨done, (n15 : Int)⟩ : GTable)))) (k := ?_)
        refine WL.nil ?_
        refine WX.seqN ?_
        refine WC.cond (b := !(tokB (⟨done, (n15 : Int)⟩ : GTable))) (ht := fun h59 => ?_) (hf := fun h59 => ?_)
        · have h60 : (tokB (⟨done, (n15 : Int)⟩ : GTable)) = false := by simpa using h59
          have ph60 := tok_f h60
          refine WC.seq ?_
          refine WC.region ?_
          refine WL.op (d := 36) (.agg #[.slice none 0 0, .int .i64 0]) (k := ?_)
          refine WL.store (v := .agg #[.slice none 0 0, .int .i64 0]) (i := 0) (cs' := #[.slice none 0 0, .int .i64 0]) hb42 (k := fun w61 hb62 k63 => ?_)
          replace hb43 := hb43.keeps k63 (Ne.symm n13)
          replace hb45 := k63.heap hb45 (Ne.symm n28)
          replace hb46 := hb46.keeps k63 (fun i hi e => (hb46.offT hb42 (by decide)) (e ▸ hi))
          replace K := K.trans' k63 (fun i hi e => absurd (e ▸ hi) (Nat.not_lt.2 z6))
          clear hb42
          refine WL.op (d := 3) (.int .i64 10) (k := ?_)
          refine WL.nil ?_
          refine WX.seqN ?_
          refine WC.ret ?_
          refine WX.seqR ?_
          refine WX.scopeR ?_
          refine WX.ret (rs := [.cell 2 24, .tmp 3]) [.agg #[.slice none 0 0, .int .i64 0], .int .i64 10] (.tuple #[.agg #[.slice none 0 0, .int .i64 0], .int .i64 10]) ⟨⟨_, (by kernel_rfl), ldN (T := 24) (i := 0) (m := 2) (l := [.slice none 0 0, .int .i64 0]) hb62⟩, (by kernel_rfl), trivial⟩ (k := ?_)
          exfalso
          have g_ := h50
          rw [ph56] at g_
          simp at g_
        · have h64 : (tokB (⟨done, (n15 : Int)⟩ : GTable)) = true := by simpa using h59
          have ph64 := tok_t h64
          refine WC.skip ?_
          refine WX.seqN ?_
          refine WC.seq ?_
          refine WC.region ?_
          refine WL.load (v := .agg #[.slice Ao done.length co, .int .i64 (n15 : Int)]) (ldN (T := 24) (i := 0) (m := 2) (l := [.slice Ao done.length co, .int .i64 (n15 : Int)]) hb45) (k := ?_)
          refine WL.store (v := .agg #[.slice Ao done.length co, .int .i64 (n15 : Int)]) (i := 0) (cs' := #[.slice Ao done.length co, .int .i64 (n15 : Int)]) hb42 (k := fun w65 hb66 k67 => ?_)
          replace hb43 := hb43.keeps k67 (Ne.symm n13)
          replace hb45 := k67.heap hb45 (Ne.symm n28)
          replace hb46 := hb46.keeps k67 (fun i hi e => (hb46.offT hb42 (by decide)) (e ▸ hi))
          replace K := K.trans' k67 (fun i hi e => absurd (e ▸ hi) (Nat.not_lt.2 z6))
          clear hb42
          refine WL.op (d := 3) (.int .i64 0) (k := ?_)
          refine WL.nil ?_
          refine WX.seqN ?_
          refine WC.ret ?_
          refine WX.scopeR ?_
          refine WX.ret (rs := [.cell 2 24, .tmp 3]) [.agg #[.slice Ao done.length co, .int .i64 (n15 : Int)], .int .i64 0] (.tuple #[.agg #[.slice Ao done.length co, .int .i64 (n15 : Int)], .int .i64 0]) ⟨⟨_, (by kernel_rfl), ldN (T := 24) (i := 0) (m := 2) (l := [.slice Ao done.length co, .int .i64 (n15 : Int)]) hb66⟩, (by kernel_rfl), trivial⟩ (k := ?_)
          exfalso
          have g_ := h50
          rw [ph56] at g_
          simp at g_
    · have h68 : (s.isSome) = true := by simpa using h49
      refine WC.skip ?_
      refine WX.seqN ?_
      refine WC.mixed (fun k => k = b8 ∨ blk Ao = some k) 7 (k := fun w69 k70 => ?_)
      replace hb42 := k70.heap hb42 id
      replace hb43 := hb43.keeps k70 id
      replace hb45 := k70.heap hb45 id
      replace hb46 := hb46.adds k70
      replace K := K.trans (k70.any _)
      have KC := Keeps.refl (fun k => k = b8 ∨ blk Ao = some k) w69
      have bh71 := hb42
      have bh72 := hb45
      have Kb := K
      refine WA.quiet 0 (d := 20) (.pointer (some ⟨b22, 0, none⟩)) KC (hi := rfl) (k := ?_)
      refine WA.quietR 1 (d := 21) (.slice Ao done.length co) KC (exec_load (fun w_ k_ => ld1 (T := 22) (i := 0) (k_.heap bh72 (not_or.2 ⟨(Ne.symm n29), (hb46.offT hb45 (by decide))⟩)))) (hi := rfl) (k := ?_)
      refine WA.quiet 2 (d := 22) (.pointer (some ⟨b8, 0, none⟩)) KC (hi := rfl) (k := ?_)
      refine WA.step 3 (hi := rfl) (k := ?_)
      refine WL.callG (d := 23) (f := 63) (args := #[.pointer (some ⟨b8, 0, none⟩)]) (tRow_c hb43 l44) (k := fun e_ w73 h_ => ?_)
      obtain ⟨r74, s75, q76, rfl, hr77, k78, l79⟩ := h_
      refine ⟨_, rfl, ?_⟩
      replace hb42 := k78.heap hb42 n13
      replace hb45 := k78.heap hb45 (Ne.symm n29)
      replace hb46 := hb46.keeps k78 (fun i hi e => (hb43.offO hb46 (by decide)) (e ▸ hi))
      replace K := K.trans' k78 (fun i hi e => absurd (e ▸ hi) (Nat.not_lt.2 z12))
      replace KC := KC.trans' k78 (fun i hi e => .inl (e))
      clear hb43
      refine WL.nil ?_
      refine WX.nxt KC ?_
      refine WA.step 4 (hi := rfl) (k := ?_)
      refine WL.newF (d := 24) (T := 53) (Value.cells (GRow.val r74)) (fun b => .slice (some ⟨b, 0, none⟩) 1 1) (k := fun b80 w81 g82 hb83 k84 => ?_)
      have z85 := Nat.le_trans K.size g82
      have zc86 := Nat.le_trans KC.size g82
      have n87 : b1 ≠ b80 := Nat.ne_of_lt (Nat.lt_of_lt_of_le (lt_of_heap hb42) g82)
      have n88 : b8 ≠ b80 := Nat.ne_of_lt (Nat.lt_of_lt_of_le hr77.lt g82)
      have n89 : b22 ≠ b80 := Nat.ne_of_lt (Nat.lt_of_lt_of_le (lt_of_heap hb45) g82)
      have n90 := OwAt.off_new hb46 g82
      replace hb42 := k84.heap hb42 id
      replace hr77 := hr77.keeps k84 id
      replace hb45 := k84.heap hb45 id
      replace hb46 := hb46.adds k84
      replace K := K.trans (k84.any _)
      replace KC := KC.trans (k84.any _)
      refine WL.nil ?_
      refine WX.nxt KC ?_
      refine WA.step 5 (hi := rfl) (k := ?_)
      refine WL.append (d := 25) (T := 22) (cl := rowC) (xs := done) (ys := [r74]) (c := 1) ekRow hb46 (SlAt.of_lit (ys := [r74]) ekRow hb83 (by kernel_rfl)) (by simp; omega) (k := fun A91 c92 w93 ho94 k95 n96 => ?_)
      have ol97 := olink_step ol47 K n96
      replace hb42 := k95.heap hb42 (hb46.offT hb42 (by decide))
      replace hr77 := hr77.keeps k95 (hr77.offO hb46 (by decide))
      replace hb45 := k95.heap hb45 (hb46.offT hb45 (by decide))
      replace K := K.trans' k95 (fun i hi e => absurd hi (Nat.not_lt.2 (ol47 i e)))
      replace KC := KC.trans' k95 (fun i hi e => .inr (e))
      clear hb46
      refine WL.nil ?_
      refine WX.nxt KC ?_
      refine WA.quiet 6 (d := 26) (.pointer (some ⟨b22, 0, none⟩)) KC (hi := rfl) (k := ?_)
      refine WA.step 7 (hi := rfl) (k := ?_)
      refine WL.store (v := .slice A91 ((done ++ [r74]).length) c92) (i := 0) (cs' := #[.slice A91 ((done ++ [r74]).length) c92, .int .i64 (n15 : Int)]) hb45 (k := fun w98 hb99 k100 => ?_)
      replace hb42 := k100.heap hb42 n28
      replace hr77 := hr77.keeps k100 n29
      replace ho94 := ho94.keeps k100 (fun i hi e => (ho94.offT hb45 (by decide)) (e ▸ hi))
      replace K := K.trans' k100 (fun i hi e => absurd (e ▸ hi) (Nat.not_lt.2 z27))
      clear hb45
      refine WL.nil ?_
      refine WX.nxtL ?_
      refine WA.done (k := ?_)
      clear KC
      refine WX.blockN ?_
      refine WX.seqN ?_
      refine WC.region ?_
      refine WL.opE (d := 27) (.int .i64 (IntKind.i64.wrap (i + 1))) (v := .int .i64 (i + 1)) (congrArg (Value.int .i64) (IntWalk.i64_in _ (by omega))) (k := ?_)
      refine WL.op (d := 15) (.int .i64 (i + 1)) (k := ?_)
      refine WL.nil ?_
      refine WX.round (i + 1, s75, done ++ [r74], A91, c92) (by show ((n34 : Int) - (i + 1)).toNat < ((n34 : Int) - i).toNat; omega) ⟨(by kernel_rfl), (by kernel_rfl), (by kernel_rfl), (by kernel_rfl), (by kernel_rfl), (by kernel_rfl), (by kernel_rfl), (by kernel_rfl), (by kernel_rfl), (by kernel_rfl), (by kernel_rfl), (by kernel_rfl), (by kernel_rfl), (by kernel_rfl), (by kernel_rfl), trivial⟩ ⟨K, hb42, hr77, l79, hb99, ho94, ol97, (by omega), (by omega), (by simp; omega), (rdI_succ i0 (by omega) hrd q76)⟩
  · have ph48 := of_decide_eq_false h48
    refine WC.exit ?_
    refine WX.seqE ?_
    refine WX.seqE ?_
    refine WX.blockE ?_
    refine WX.seqN ?_
    refine WC.seq ?_
    refine WC.seq ?_
    refine WC.region ?_
    refine WL.op (d := 28) (.pointer (some ⟨b8, 0, none⟩)) (k := ?_)
    refine WL.callG (d := 29) (f := 64) (args := #[.pointer (some ⟨b8, 0, none⟩)]) (rEnd_any _ _ w41 hb43) (k := fun e_ w_ h_ => ⟨.bool (decide (s = some [])), h_.1, ?_⟩)
    obtain ⟨-, rfl⟩ := h_
    refine WL.op (d := 30) (.bool (!(decide (s = some [])))) (k := ?_)
    refine WL.op (d := 31) (.bool (!(decide (s = some [])))) (k := ?_)
    refine bsplit (!(decide (s = some []))) (fun h101 => ?_) (fun h101 => ?_)
    · have h102 : (decide (s = some [])) = false := by simpa using h101
      have ph102 := of_decide_eq_false h102
      refine WL.rw (t := 31) (v := .bool true) (congrArg Value.bool h101) (k := ?_)
      refine WL.skip (d := 32) (k := ?_)
      refine WL.skip (d := 33) (k := ?_)
      refine WL.skip (d := 34) (k := ?_)
      refine WL.op (d := 35) (.bool true) (k := ?_)
      refine WL.nil ?_
      refine WX.seqN ?_
      refine WC.condT (k := ?_)
      refine WC.seq ?_
      refine WC.region ?_
      refine WL.op (d := 36) (.agg #[.slice none 0 0, .int .i64 0]) (k := ?_)
      refine WL.store (v := .agg #[.slice none 0 0, .int .i64 0]) (i := 0) (cs' := #[.slice none 0 0, .int .i64 0]) hb42 (k := fun w103 hb104 k105 => ?_)
      replace hb43 := hb43.keeps k105 (Ne.symm n13)
      replace hb45 := k105.heap hb45 (Ne.symm n28)
      replace hb46 := hb46.keeps k105 (fun i hi e => (hb46.offT hb42 (by decide)) (e ▸ hi))
      replace K := K.trans' k105 (fun i hi e => absurd (e ▸ hi) (Nat.not_lt.2 z6))
      clear hb42
      refine WL.op (d := 3) (.int .i64 10) (k := ?_)
      refine WL.nil ?_
      refine WX.seqN ?_
      refine WC.ret ?_
      refine WX.seqR ?_
      refine WX.scopeR ?_
      refine WX.ret (rs := [.cell 2 24, .tmp 3]) [.agg #[.slice none 0 0, .int .i64 0], .int .i64 10] (.tuple #[.agg #[.slice none 0 0, .int .i64 0], .int .i64 10]) ⟨⟨_, (by kernel_rfl), ldN (T := 24) (i := 0) (m := 2) (l := [.slice none 0 0, .int .i64 0]) hb104⟩, (by kernel_rfl), trivial⟩ (k := ?_)
      have re_ := readT_end q17 q36 hrd (by omega)
      exact TabRes.nil (by rw [re_]; simp [GTable.zero, h102, ph102]) rfl K
    · have h106 : (decide (s = some [])) = true := by simpa using h101
      have ph106 := of_decide_eq_true h106
      refine WL.rw (t := 31) (v := .bool false) (congrArg Value.bool h101) (k := ?_)
      refine WL.load (v := .agg #[.slice Ao done.length co, .int .i64 (n15 : Int)]) (ldN (T := 24) (i := 0) (m := 2) (l := [.slice Ao done.length co, .int .i64 (n15 : Int)]) hb45) (k := ?_)
      refine WL.callG (d := 33) (f := 36) (args := #[.agg #[.slice Ao done.length co, .int .i64 (n15 : Int)]]) (tCheck_c (cp := co) (hb46.sl ekRow) (by first | omega | simp | (simp; omega))) (k := fun e_ w107 h_ => ⟨.bool (tokB (⟨done, (n15 : Int)⟩ : GTable)), h_.1, ?_⟩)
      have k108 := h_.2; clear h_
      replace hb42 := k108.heap hb42 id
      replace hb43 := hb43.keeps k108 id
      replace hb45 := k108.heap hb45 id
      replace hb46 := hb46.adds k108
      replace K := K.trans (k108.any _)
      refine WL.op (d := 34) (.bool (!(tokB (⟨done, (n15 : Int)⟩ : GTable)))) (k := ?_)
      refine WL.op (d := 35) (.bool (!(tokB (⟨done, (n15 : Int)⟩ : GTable)))) (k := ?_)
      refine WL.nil ?_
      refine WX.seqN ?_
      refine WC.cond (b := !(tokB (⟨done, (n15 : Int)⟩ : GTable))) (ht := fun h109 => ?_) (hf := fun h109 => ?_)
      · have h110 : (tokB (⟨done, (n15 : Int)⟩ : GTable)) = false := by simpa using h109
        have ph110 := tok_f h110
        refine WC.seq ?_
        refine WC.region ?_
        refine WL.op (d := 36) (.agg #[.slice none 0 0, .int .i64 0]) (k := ?_)
        refine WL.store (v := .agg #[.slice none 0 0, .int .i64 0]) (i := 0) (cs' := #[.slice none 0 0, .int .i64 0]) hb42 (k := fun w111 hb112 k113 => ?_)
        replace hb43 := hb43.keeps k113 (Ne.symm n13)
        replace hb45 := k113.heap hb45 (Ne.symm n28)
        replace hb46 := hb46.keeps k113 (fun i hi e => (hb46.offT hb42 (by decide)) (e ▸ hi))
        replace K := K.trans' k113 (fun i hi e => absurd (e ▸ hi) (Nat.not_lt.2 z6))
        clear hb42
        refine WL.op (d := 3) (.int .i64 10) (k := ?_)
        refine WL.nil ?_
        refine WX.seqN ?_
        refine WC.ret ?_
        refine WX.seqR ?_
        refine WX.scopeR ?_
        refine WX.ret (rs := [.cell 2 24, .tmp 3]) [.agg #[.slice none 0 0, .int .i64 0], .int .i64 10] (.tuple #[.agg #[.slice none 0 0, .int .i64 0], .int .i64 10]) ⟨⟨_, (by kernel_rfl), ldN (T := 24) (i := 0) (m := 2) (l := [.slice none 0 0, .int .i64 0]) hb112⟩, (by kernel_rfl), trivial⟩ (k := ?_)
        have re_ := readT_end q17 q36 hrd (by omega)
        exact TabRes.nil (by rw [re_]; simp [GTable.zero, h106, ph106, h110]) rfl K
      · have h114 : (tokB (⟨done, (n15 : Int)⟩ : GTable)) = true := by simpa using h109
        have ph114 := tok_t h114
        refine WC.skip ?_
        refine WX.seqN ?_
        refine WC.seq ?_
        refine WC.region ?_
        refine WL.load (v := .agg #[.slice Ao done.length co, .int .i64 (n15 : Int)]) (ldN (T := 24) (i := 0) (m := 2) (l := [.slice Ao done.length co, .int .i64 (n15 : Int)]) hb45) (k := ?_)
        refine WL.store (v := .agg #[.slice Ao done.length co, .int .i64 (n15 : Int)]) (i := 0) (cs' := #[.slice Ao done.length co, .int .i64 (n15 : Int)]) hb42 (k := fun w115 hb116 k117 => ?_)
        replace hb43 := hb43.keeps k117 (Ne.symm n13)
        replace hb45 := k117.heap hb45 (Ne.symm n28)
        replace hb46 := hb46.keeps k117 (fun i hi e => (hb46.offT hb42 (by decide)) (e ▸ hi))
        replace K := K.trans' k117 (fun i hi e => absurd (e ▸ hi) (Nat.not_lt.2 z6))
        clear hb42
        refine WL.op (d := 3) (.int .i64 0) (k := ?_)
        refine WL.nil ?_
        refine WX.seqN ?_
        refine WC.ret ?_
        refine WX.scopeR ?_
        refine WX.ret (rs := [.cell 2 24, .tmp 3]) [.agg #[.slice Ao done.length co, .int .i64 (n15 : Int)], .int .i64 0] (.tuple #[.agg #[.slice Ao done.length co, .int .i64 (n15 : Int)], .int .i64 0]) ⟨⟨_, (by kernel_rfl), ldN (T := 24) (i := 0) (m := 2) (l := [.slice Ao done.length co, .int .i64 (n15 : Int)]) hb116⟩, (by kernel_rfl), trivial⟩ (k := ?_)
        have re_ := readT_end q17 q36 hrd (by omega)
        exact TabRes.mk (by rw [re_]; simp [GTable.zero, h106, ph106, h114]) rfl hb46 K ol47

set_option maxRecDepth 100000 in
set_option maxHeartbeats 4000000 in
theorem u14Read_c (l : List UInt8) (hl : l.length ≤ 1000000000) (w : World) : Calls Try.prog 26 #[.string ⟨l.toArray⟩] w (TabRes (readT l) w) := by
  have K : Keeps (fun _ => False) w w := Keeps.refl _ w
  refine Calls.start Try.func26 rfl (by kernel_rfl) ?_
  refine WC.seq ?_
  refine WC.region ?_
  refine WL.new (d := 2) (T := 24) #[.slice none 0 0, .int .i64 0] (k := fun b1 w2 g3 hb4 k5 => ?_)
  have z6 := Nat.le_trans K.size g3
  replace K := K.trans (k5.any _)
  refine WL.op (d := 3) (.int .i64 0) (k := ?_)
  refine WL.nil ?_
  refine WX.seqN ?_
  refine WC.seq ?_
  refine WC.region ?_
  refine WL.op (d := 11) (.string ⟨(l).toArray⟩) (k := ?_)
  refine WL.op (d := 12) (.agg #[.string ⟨(l).toArray⟩, .bool false]) (k := ?_)
  refine WL.new (d := 13) (T := 87) #[.string ⟨(l).toArray⟩, .bool false] (k := fun b7 w8 g9 hb10 k11 => ?_)
  have z12 := Nat.le_trans K.size g9
  have n13 : b1 ≠ b7 := Nat.ne_of_lt (Nat.lt_of_lt_of_le (lt_of_heap hb4) g9)
  replace hb4 := k11.heap hb4 id
  replace K := K.trans (k11.any _)
  have hr14 : QrAt b7 (some l) w8 := QrAt.new hb10
  clear hb10
  refine WL.op (d := 4) (.pointer (some ⟨b7, 0, none⟩)) (k := ?_)
  refine WL.nil ?_
  refine WX.seqN ?_
  refine WC.seq ?_
  refine WC.region ?_
  refine WL.op (d := 14) (.pointer (some ⟨b7, 0, none⟩)) (k := ?_)
  refine WL.callG (d := 15) (f := 65) (args := #[.pointer (some ⟨b7, 0, none⟩), .int .i64 3]) (qInt_x 3 hr14 (by show List.length l ≤ _; first | omega | (simp; omega)) (by omega) (by omega)) (k := fun e_ w15 h_ => ?_)
  obtain ⟨n16, s17, q18, rfl, hr19, k20, l21, m22⟩ := h_
  refine ⟨_, rfl, ?_⟩
  replace hb4 := k20.heap hb4 n13
  replace K := K.trans' k20 (fun i hi e => absurd (e ▸ hi) (Nat.not_lt.2 z12))
  clear hr14
  refine WL.op (d := 16) (.agg #[.slice none 0 0, .int .i64 (n16 : Int)]) (k := ?_)
  refine WL.new (d := 5) (T := 24) #[.slice none 0 0, .int .i64 0] (k := fun b23 w24 g25 hb26 k27 => ?_)
  have z28 := Nat.le_trans K.size g25
  have n29 : b1 ≠ b23 := Nat.ne_of_lt (Nat.lt_of_lt_of_le (lt_of_heap hb4) g25)
  have n30 : b7 ≠ b23 := Nat.ne_of_lt (Nat.lt_of_lt_of_le hr19.lt g25)
  replace hb4 := k27.heap hb4 id
  replace hr19 := hr19.keeps k27 id
  replace K := K.trans (k27.any _)
  refine WL.store (v := .agg #[.slice none 0 0, .int .i64 (n16 : Int)]) (i := 0) (cs' := #[.slice none 0 0, .int .i64 (n16 : Int)]) hb26 (k := fun w31 hb32 k33 => ?_)
  replace hb4 := k33.heap hb4 n29
  replace hr19 := hr19.keeps k33 n30
  replace K := K.trans' k33 (fun i hi e => absurd (e ▸ hi) (Nat.not_lt.2 z28))
  clear hb26
  refine WL.nil ?_
  refine WX.seqN ?_
  refine WC.seq ?_
  refine WC.region ?_
  refine WL.op (d := 17) (.pointer (some ⟨b7, 0, none⟩)) (k := ?_)
  refine WL.callG (d := 18) (f := 65) (args := #[.pointer (some ⟨b7, 0, none⟩), .int .i64 16]) (qInt_x 16 hr19 l21 (by omega) (by omega)) (k := fun e_ w34 h_ => ?_)
  obtain ⟨n35, s36, q37, rfl, hr38, k39, l40, m41⟩ := h_
  refine ⟨_, rfl, ?_⟩
  replace hb4 := k39.heap hb4 n13
  replace hb32 := k39.heap hb32 (Ne.symm n30)
  replace K := K.trans' k39 (fun i hi e => absurd (e ▸ hi) (Nat.not_lt.2 z12))
  clear hr19
  refine WL.op (d := 6) (.int .i64 (n35 : Int)) (k := ?_)
  refine WL.nil ?_
  refine WX.seqN ?_
  refine WC.seq ?_
  refine WC.seq ?_
  refine WC.region ?_
  refine WL.op (d := 7) (.int .i64 0) (k := ?_)
  refine WL.nil ?_
  refine WX.seqN ?_
  refine WC.block ?_
  refine WC.loop (ι := Int × (Option (List UInt8)) × (List GRow) × (Option Addr) × Nat) (fun (⟨i, s, done, Ao, co⟩ : Int × (Option (List UInt8)) × (List GRow) × (Option Addr) × Nat) => [(0, .string ⟨(l).toArray⟩), (2, .pointer (some ⟨b1, 0, none⟩)), (3, .int .i64 0), (11, .string ⟨(l).toArray⟩), (12, .agg #[.string ⟨(l).toArray⟩, .bool false]), (13, .pointer (some ⟨b7, 0, none⟩)), (4, .pointer (some ⟨b7, 0, none⟩)), (14, .pointer (some ⟨b7, 0, none⟩)), (15, .int .i64 (n16 : Int)), (16, .agg #[.slice none 0 0, .int .i64 (n16 : Int)]), (5, .pointer (some ⟨b23, 0, none⟩)), (17, .pointer (some ⟨b7, 0, none⟩)), (18, .int .i64 (n35 : Int)), (6, .int .i64 (n35 : Int)), (7, .int .i64 i)]) (fun (⟨i, s, done, Ao, co⟩ : Int × (Option (List UInt8)) × (List GRow) × (Option Addr) × Nat) (w_ : World) => (Keeps (fun _ => False) w w_) ∧ (w_.heap[b1]? = some (.cells #[.slice none 0 0, .int .i64 0] 24 (0, 0))) ∧ (QrAt b7 s w_) ∧ (stLen s ≤ 1000000000) ∧ (w_.heap[b23]? = some (.cells #[.slice Ao done.length co, .int .i64 (n16 : Int)] 24 (0, 0))) ∧ (OwAt rowC 6 53 Ao co done w_) ∧ (∀ i, blk Ao = some i → w.heap.size ≤ i) ∧ (0 ≤ i) ∧ (i ≤ (n35 : Int)) ∧ ((done.length : Int) ≤ i) ∧ (rdI n35 s36 i done s)) (fun (⟨i, s, done, Ao, co⟩ : Int × (Option (List UInt8)) × (List GRow) × (Option Addr) × Nat) => ((n35 : Int) - i).toNat) (0, s36, [], none, 0) ⟨(by kernel_rfl), (by kernel_rfl), (by kernel_rfl), (by kernel_rfl), (by kernel_rfl), (by kernel_rfl), (by kernel_rfl), (by kernel_rfl), (by kernel_rfl), (by kernel_rfl), (by kernel_rfl), (by kernel_rfl), (by kernel_rfl), (by kernel_rfl), (by kernel_rfl), trivial⟩ ⟨K, hb4, hr38, l40, hb32, OwAt.nil, (by simp [blk]), Int.le_refl 0, (by omega), (Int.le_refl _), rdI_zero _ _⟩ ?_
  rintro ⟨i, s, done, Ao, co⟩ w42 ⟨K, hb43, hb44, l45, hb46, hb47, ol48, i0, i1, hdl, hrd⟩
  refine WC.seq ?_
  refine WC.seq ?_
  refine WC.region ?_
  refine WL.op (d := 19) (.int .i64 i) (k := ?_)
  refine WL.op (d := 20) (.int .i64 (n35 : Int)) (k := ?_)
  refine WL.op (d := 21) (.bool (decide (i < (n35 : Int)))) (k := ?_)
  refine WL.op (d := 22) (.bool (decide (i < (n35 : Int)))) (k := ?_)
  refine bsplit (decide (i < (n35 : Int))) (fun h49 => ?_) (fun h49 => ?_)
  · have ph49 := of_decide_eq_true h49
    refine WL.rw (t := 22) (v := .bool true) (congrArg Value.bool h49) (k := ?_)
    refine WL.op (d := 23) (.pointer (some ⟨b7, 0, none⟩)) (k := ?_)
    refine WL.op (d := 24) (.pointer (some ⟨b7, 0, none⟩)) (k := ?_)
    refine WL.op (d := 25) (.pointer (some ⟨b7, 1, none⟩)) (k := ?_)
    refine WL.load (v := .bool (!(s.isSome))) (qr_bad (T := 4) hb44) (k := ?_)
    refine WL.op (d := 27) (.bool (!(!(s.isSome)))) (k := ?_)
    refine WL.op (d := 28) (.bool (!(!(s.isSome)))) (k := ?_)
    refine WL.nil ?_
    refine WX.seqN ?_
    refine WC.cond (b := !(!(s.isSome))) (ht := fun h50 => ?_) (hf := fun h50 => ?_)
    · have h51 : (!(s.isSome)) = false := by simpa using h50
      have h52 : (s.isSome) = true := by simpa using h51
      refine WC.skip ?_
      refine WX.seqN ?_
      refine WC.seq ?_
      refine WC.block ?_
      refine WC.seq ?_
      refine WC.region ?_
      refine WL.op (d := 31) (.agg #[.int .i64 0, .int .i64 0, .int .i64 0, .int .i64 0, .int .i64 0, .bool false]) (k := ?_)
      refine WL.new (d := 8) (T := 53) #[.int .i64 0, .int .i64 0, .int .i64 0, .int .i64 0, .int .i64 0, .bool false] (k := fun b53 w54 g55 hb56 k57 => ?_)
      have z58 := Nat.le_trans K.size g55
      have n59 : b1 ≠ b53 := Nat.ne_of_lt (Nat.lt_of_lt_of_le (lt_of_heap hb43) g55)
      have n60 : b7 ≠ b53 := Nat.ne_of_lt (Nat.lt_of_lt_of_le hb44.lt g55)
      have n61 : b23 ≠ b53 := Nat.ne_of_lt (Nat.lt_of_lt_of_le (lt_of_heap hb46) g55)
      have n62 := OwAt.off_new hb47 g55
      replace hb43 := k57.heap hb43 id
      replace hb44 := hb44.keeps k57 id
      replace hb46 := k57.heap hb46 id
      replace hb47 := hb47.adds k57
      replace K := K.trans (k57.any _)
      refine WL.store (v := .agg #[.int .i64 0, .int .i64 0, .int .i64 0, .int .i64 0, .int .i64 0, .bool false]) (i := 0) (cs' := #[.int .i64 0, .int .i64 0, .int .i64 0, .int .i64 0, .int .i64 0, .bool false]) hb56 (k := fun w63 hb64 k65 => ?_)
      replace hb43 := k65.heap hb43 n59
      replace hb44 := hb44.keeps k65 n60
      replace hb46 := k65.heap hb46 n61
      replace hb47 := hb47.keeps k65 (fun i hi e => (n62) (e ▸ hi))
      replace K := K.trans' k65 (fun i hi e => absurd (e ▸ hi) (Nat.not_lt.2 z58))
      clear hb56
      refine WL.nil ?_
      refine WX.seqN ?_
      refine WC.seq ?_
      refine WC.region ?_
      refine WL.op (d := 32) (.pointer (some ⟨b7, 0, none⟩)) (k := ?_)
      refine WL.callG (d := 33) (f := 65) (args := #[.pointer (some ⟨b7, 0, none⟩), .int .i64 1023]) (qInt_x 1023 hb44 l45 (by omega) (by omega)) (k := fun e_ w66 h_ => ?_)
      obtain ⟨n67, s68, q69, rfl, hr70, k71, l72, m73⟩ := h_
      refine ⟨_, rfl, ?_⟩
      replace hb43 := k71.heap hb43 n13
      replace hb46 := k71.heap hb46 (Ne.symm n30)
      replace hb47 := hb47.keeps k71 (fun i hi e => (hb44.offO hb47 (by decide)) (e ▸ hi))
      replace hb64 := k71.heap hb64 (Ne.symm n60)
      replace K := K.trans' k71 (fun i hi e => absurd (e ▸ hi) (Nat.not_lt.2 z12))
      clear hb44
      refine WL.op (d := 34) (.pointer (some ⟨b53, 0, none⟩)) (k := ?_)
      refine WL.op (d := 35) (.pointer (some ⟨b53, 0, none⟩)) (k := ?_)
      refine WL.store (v := .int .i64 (n67 : Int)) (i := 0) (cs' := #[.int .i64 (n67 : Int), .int .i64 0, .int .i64 0, .int .i64 0, .int .i64 0, .bool false]) hb64 (k := fun w74 hb75 k76 => ?_)
      replace hb43 := k76.heap hb43 n59
      replace hr70 := hr70.keeps k76 n60
      replace hb46 := k76.heap hb46 n61
      replace hb47 := hb47.keeps k76 (fun i hi e => (n62) (e ▸ hi))
      replace K := K.trans' k76 (fun i hi e => absurd (e ▸ hi) (Nat.not_lt.2 z58))
      clear hb64
      refine WL.nil ?_
      refine WX.seqN ?_
      refine WC.seq ?_
      refine WC.region ?_
      refine WL.op (d := 36) (.pointer (some ⟨b7, 0, none⟩)) (k := ?_)
      refine WL.callG (d := 37) (f := 66) (args := #[.pointer (some ⟨b7, 0, none⟩), .int .u64 2147483648]) (qNum_x 2147483648 hr70 l72 (by omega) (by omega)) (k := fun e_ w77 h_ => ?_)
      obtain ⟨n78, s79, q80, rfl, hr81, k82, l83, m84⟩ := h_
      refine ⟨_, rfl, ?_⟩
      replace hb43 := k82.heap hb43 n13
      replace hb46 := k82.heap hb46 (Ne.symm n30)
      replace hb47 := hb47.keeps k82 (fun i hi e => (hr70.offO hb47 (by decide)) (e ▸ hi))
      replace hb75 := k82.heap hb75 (Ne.symm n60)
      replace K := K.trans' k82 (fun i hi e => absurd (e ▸ hi) (Nat.not_lt.2 z12))
      clear hr70
      refine WL.opE (d := 38) (.int .i64 (IntKind.i64.wrap (n78 : Int))) (v := .int .i64 (n78 : Int)) (congrArg (Value.int .i64) (IntWalk.i64_in _ (by omega))) (k := ?_)
      refine WL.op (d := 39) (.pointer (some ⟨b53, 0, none⟩)) (k := ?_)
      refine WL.op (d := 40) (.pointer (some ⟨b53, 1, none⟩)) (k := ?_)
      refine WL.store (v := .int .i64 (n78 : Int)) (i := 1) (cs' := #[.int .i64 (n67 : Int), .int .i64 (n78 : Int), .int .i64 0, .int .i64 0, .int .i64 0, .bool false]) hb75 (k := fun w85 hb86 k87 => ?_)
      replace hb43 := k87.heap hb43 n59
      replace hr81 := hr81.keeps k87 n60
      replace hb46 := k87.heap hb46 n61
      replace hb47 := hb47.keeps k87 (fun i hi e => (n62) (e ▸ hi))
      replace K := K.trans' k87 (fun i hi e => absurd (e ▸ hi) (Nat.not_lt.2 z58))
      clear hb75
      refine WL.nil ?_
      refine WX.seqN ?_
      refine WC.seq ?_
      refine WC.region ?_
      refine WL.op (d := 41) (.pointer (some ⟨b7, 0, none⟩)) (k := ?_)
      refine WL.callG (d := 42) (f := 66) (args := #[.pointer (some ⟨b7, 0, none⟩), .int .u64 2147483648]) (qNum_x 2147483648 hr81 l83 (by omega) (by omega)) (k := fun e_ w88 h_ => ?_)
      obtain ⟨n89, s90, q91, rfl, hr92, k93, l94, m95⟩ := h_
      refine ⟨_, rfl, ?_⟩
      replace hb43 := k93.heap hb43 n13
      replace hb46 := k93.heap hb46 (Ne.symm n30)
      replace hb47 := hb47.keeps k93 (fun i hi e => (hr81.offO hb47 (by decide)) (e ▸ hi))
      replace hb86 := k93.heap hb86 (Ne.symm n60)
      replace K := K.trans' k93 (fun i hi e => absurd (e ▸ hi) (Nat.not_lt.2 z12))
      clear hr81
      refine WL.opE (d := 43) (.int .i64 (IntKind.i64.wrap (n89 : Int))) (v := .int .i64 (n89 : Int)) (congrArg (Value.int .i64) (IntWalk.i64_in _ (by omega))) (k := ?_)
      refine WL.op (d := 44) (.pointer (some ⟨b53, 0, none⟩)) (k := ?_)
      refine WL.op (d := 45) (.pointer (some ⟨b53, 2, none⟩)) (k := ?_)
      refine WL.store (v := .int .i64 (n89 : Int)) (i := 2) (cs' := #[.int .i64 (n67 : Int), .int .i64 (n78 : Int), .int .i64 (n89 : Int), .int .i64 0, .int .i64 0, .bool false]) hb86 (k := fun w96 hb97 k98 => ?_)
      replace hb43 := k98.heap hb43 n59
      replace hr92 := hr92.keeps k98 n60
      replace hb46 := k98.heap hb46 n61
      replace hb47 := hb47.keeps k98 (fun i hi e => (n62) (e ▸ hi))
      replace K := K.trans' k98 (fun i hi e => absurd (e ▸ hi) (Nat.not_lt.2 z58))
      clear hb86
      refine WL.nil ?_
      refine WX.seqN ?_
      refine WC.seq ?_
      refine WC.region ?_
      refine WL.op (d := 46) (.pointer (some ⟨b7, 0, none⟩)) (k := ?_)
      refine WL.callG (d := 47) (f := 66) (args := #[.pointer (some ⟨b7, 0, none⟩), .int .u64 2147483648]) (qNum_x 2147483648 hr92 l94 (by omega) (by omega)) (k := fun e_ w99 h_ => ?_)
      obtain ⟨n100, s101, q102, rfl, hr103, k104, l105, m106⟩ := h_
      refine ⟨_, rfl, ?_⟩
      replace hb43 := k104.heap hb43 n13
      replace hb46 := k104.heap hb46 (Ne.symm n30)
      replace hb47 := hb47.keeps k104 (fun i hi e => (hr92.offO hb47 (by decide)) (e ▸ hi))
      replace hb97 := k104.heap hb97 (Ne.symm n60)
      replace K := K.trans' k104 (fun i hi e => absurd (e ▸ hi) (Nat.not_lt.2 z12))
      clear hr92
      refine WL.opE (d := 48) (.int .i64 (IntKind.i64.wrap (n100 : Int))) (v := .int .i64 (n100 : Int)) (congrArg (Value.int .i64) (IntWalk.i64_in _ (by omega))) (k := ?_)
      refine WL.op (d := 49) (.pointer (some ⟨b53, 0, none⟩)) (k := ?_)
      refine WL.op (d := 50) (.pointer (some ⟨b53, 3, none⟩)) (k := ?_)
      refine WL.store (v := .int .i64 (n100 : Int)) (i := 3) (cs' := #[.int .i64 (n67 : Int), .int .i64 (n78 : Int), .int .i64 (n89 : Int), .int .i64 (n100 : Int), .int .i64 0, .bool false]) hb97 (k := fun w107 hb108 k109 => ?_)
      replace hb43 := k109.heap hb43 n59
      replace hr103 := hr103.keeps k109 n60
      replace hb46 := k109.heap hb46 n61
      replace hb47 := hb47.keeps k109 (fun i hi e => (n62) (e ▸ hi))
      replace K := K.trans' k109 (fun i hi e => absurd (e ▸ hi) (Nat.not_lt.2 z58))
      clear hb97
      refine WL.nil ?_
      refine WX.seqN ?_
      refine WC.seq ?_
      refine WC.region ?_
      refine WL.op (d := 51) (.pointer (some ⟨b7, 0, none⟩)) (k := ?_)
      refine WL.callG (d := 52) (f := 65) (args := #[.pointer (some ⟨b7, 0, none⟩), .int .i64 15]) (qInt_x 15 hr103 l105 (by omega) (by omega)) (k := fun e_ w110 h_ => ?_)
      obtain ⟨n111, s112, q113, rfl, hr114, k115, l116, m117⟩ := h_
      refine ⟨_, rfl, ?_⟩
      replace hb43 := k115.heap hb43 n13
      replace hb46 := k115.heap hb46 (Ne.symm n30)
      replace hb47 := hb47.keeps k115 (fun i hi e => (hr103.offO hb47 (by decide)) (e ▸ hi))
      replace hb108 := k115.heap hb108 (Ne.symm n60)
      replace K := K.trans' k115 (fun i hi e => absurd (e ▸ hi) (Nat.not_lt.2 z12))
      clear hr103
      refine WL.op (d := 53) (.pointer (some ⟨b53, 0, none⟩)) (k := ?_)
      refine WL.op (d := 54) (.pointer (some ⟨b53, 4, none⟩)) (k := ?_)
      refine WL.store (v := .int .i64 (n111 : Int)) (i := 4) (cs' := #[.int .i64 (n67 : Int), .int .i64 (n78 : Int), .int .i64 (n89 : Int), .int .i64 (n100 : Int), .int .i64 (n111 : Int), .bool false]) hb108 (k := fun w118 hb119 k120 => ?_)
      replace hb43 := k120.heap hb43 n59
      replace hr114 := hr114.keeps k120 n60
      replace hb46 := k120.heap hb46 n61
      replace hb47 := hb47.keeps k120 (fun i hi e => (n62) (e ▸ hi))
      replace K := K.trans' k120 (fun i hi e => absurd (e ▸ hi) (Nat.not_lt.2 z58))
      clear hb108
      refine WL.nil ?_
      refine WX.seqN ?_
      refine WC.seq ?_
      refine WC.region ?_
      refine WL.op (d := 55) (.pointer (some ⟨b7, 0, none⟩)) (k := ?_)
      refine WL.callG (d := 56) (f := 67) (args := #[.pointer (some ⟨b7, 0, none⟩)]) (qFlag_x  hr114 l116 ) (k := fun e_ w121 h_ => ?_)
      obtain ⟨n122, s123, q124, rfl, hr125, k126, l127⟩ := h_
      refine ⟨_, rfl, ?_⟩
      replace hb43 := k126.heap hb43 n13
      replace hb46 := k126.heap hb46 (Ne.symm n30)
      replace hb47 := hb47.keeps k126 (fun i hi e => (hr114.offO hb47 (by decide)) (e ▸ hi))
      replace hb119 := k126.heap hb119 (Ne.symm n60)
      replace K := K.trans' k126 (fun i hi e => absurd (e ▸ hi) (Nat.not_lt.2 z12))
      clear hr114
      refine WL.op (d := 57) (.pointer (some ⟨b53, 5, none⟩)) (k := ?_)
      refine WL.store (v := .bool n122) (i := 5) (cs' := #[.int .i64 (n67 : Int), .int .i64 (n78 : Int), .int .i64 (n89 : Int), .int .i64 (n100 : Int), .int .i64 (n111 : Int), .bool n122]) hb119 (k := fun w129 hb130 k131 => ?_)
      replace hb43 := k131.heap hb43 n59
      replace hr125 := hr125.keeps k131 n60
      replace hb46 := k131.heap hb46 n61
      replace hb47 := hb47.keeps k131 (fun i hi e => (n62) (e ▸ hi))
      replace K := K.trans' k131 (fun i hi e => absurd (e ▸ hi) (Nat.not_lt.2 z58))
      clear hb119
      refine WL.nil ?_
      refine WX.seqN ?_
      refine WC.region ?_
      refine WL.op (d := 58) (.pointer (some ⟨b23, 0, none⟩)) (k := ?_)
      refine WL.load (v := .slice Ao done.length co) (ld1 (T := 22) (i := 0) hb46) (k := ?_)
      refine WL.load (v := .agg #[.int .i64 (n67 : Int), .int .i64 (n78 : Int), .int .i64 (n89 : Int), .int .i64 (n100 : Int), .int .i64 (n111 : Int), .bool n122]) (ldN (T := 53) (i := 0) (m := 6) (l := [.int .i64 (n67 : Int), .int .i64 (n78 : Int), .int .i64 (n89 : Int), .int .i64 (n100 : Int), .int .i64 (n111 : Int), .bool n122]) hb130) (k := ?_)
      refine WL.newF (d := 61) (T := 53) #[.int .i64 (n67 : Int), .int .i64 (n78 : Int), .int .i64 (n89 : Int), .int .i64 (n100 : Int), .int .i64 (n111 : Int), .bool n122] (fun b => .slice (some ⟨b, 0, none⟩) 1 1) (k := fun b132 w133 g134 hb135 k136 => ?_)
      have z137 := Nat.le_trans K.size g134
      have n138 : b1 ≠ b132 := Nat.ne_of_lt (Nat.lt_of_lt_of_le (lt_of_heap hb43) g134)
      have n139 : b7 ≠ b132 := Nat.ne_of_lt (Nat.lt_of_lt_of_le hr125.lt g134)
      have n140 : b23 ≠ b132 := Nat.ne_of_lt (Nat.lt_of_lt_of_le (lt_of_heap hb46) g134)
      have n141 := OwAt.off_new hb47 g134
      have n142 : b53 ≠ b132 := Nat.ne_of_lt (Nat.lt_of_lt_of_le (lt_of_heap hb130) g134)
      replace hb43 := k136.heap hb43 id
      replace hr125 := hr125.keeps k136 id
      replace hb46 := k136.heap hb46 id
      replace hb47 := hb47.adds k136
      replace hb130 := k136.heap hb130 id
      replace K := K.trans (k136.any _)
      refine WL.append (d := 62) (T := 22) (cl := rowC) (xs := done) (ys := [(⟨⟨(n67 : Int), (n78 : Int), (n89 : Int), (n100 : Int), (n111 : Int)⟩, n122⟩ : GRow)]) (c := 1) ekRow hb47 (SlAt.of_lit (ys := [(⟨⟨(n67 : Int), (n78 : Int), (n89 : Int), (n100 : Int), (n111 : Int)⟩, n122⟩ : GRow)]) ekRow hb135 (by kernel_rfl)) (by simp; omega) (k := fun A143 c144 w145 ho146 k147 n148 => ?_)
      have ol149 := olink_step ol48 K n148
      have n150 := off_step n148 n62 (lt_of_heap hb130)
      replace hb43 := k147.heap hb43 (hb47.offT hb43 (by decide))
      replace hr125 := hr125.keeps k147 (hr125.offO hb47 (by decide))
      replace hb46 := k147.heap hb46 (hb47.offT hb46 (by decide))
      replace hb130 := k147.heap hb130 n62
      replace K := K.trans' k147 (fun i hi e => absurd hi (Nat.not_lt.2 (ol48 i e)))
      clear hb47
      refine WL.op (d := 63) (.pointer (some ⟨b23, 0, none⟩)) (k := ?_)
      refine WL.store (v := .slice A143 ((done ++ [(⟨⟨(n67 : Int), (n78 : Int), (n89 : Int), (n100 : Int), (n111 : Int)⟩, n122⟩ : GRow)]).length) c144) (i := 0) (cs' := #[.slice A143 ((done ++ [(⟨⟨(n67 : Int), (n78 : Int), (n89 : Int), (n100 : Int), (n111 : Int)⟩, n122⟩ : GRow)]).length) c144, .int .i64 (n16 : Int)]) hb46 (k := fun w151 hb152 k153 => ?_)
      replace hb43 := k153.heap hb43 n29
      replace hr125 := hr125.keeps k153 n30
      replace ho146 := ho146.keeps k153 (fun i hi e => (ho146.offT hb46 (by decide)) (e ▸ hi))
      replace hb130 := k153.heap hb130 (Ne.symm n61)
      replace K := K.trans' k153 (fun i hi e => absurd (e ▸ hi) (Nat.not_lt.2 z28))
      clear hb46
      refine WL.nil ?_
      refine WX.blockN ?_
      refine WX.seqN ?_
      refine WC.region ?_
      refine WL.op (d := 29) (.int .i64 i) (k := ?_)
      refine WL.opE (d := 30) (.int .i64 (IntKind.i64.wrap (i + 1))) (v := .int .i64 (i + 1)) (congrArg (Value.int .i64) (IntWalk.i64_in _ (by omega))) (k := ?_)
      refine WL.op (d := 7) (.int .i64 (i + 1)) (k := ?_)
      refine WL.nil ?_
      refine WX.round (i + 1, s123, done ++ [(⟨⟨(n67 : Int), (n78 : Int), (n89 : Int), (n100 : Int), (n111 : Int)⟩, n122⟩ : GRow)], A143, c144) (by show ((n35 : Int) - (i + 1)).toNat < ((n35 : Int) - i).toNat; omega) ⟨(by kernel_rfl), (by kernel_rfl), (by kernel_rfl), (by kernel_rfl), (by kernel_rfl), (by kernel_rfl), (by kernel_rfl), (by kernel_rfl), (by kernel_rfl), (by kernel_rfl), (by kernel_rfl), (by kernel_rfl), (by kernel_rfl), (by kernel_rfl), (by kernel_rfl), trivial⟩ ⟨K, hb43, hr125, l127, hb152, ho146, ol149, (by omega), (by omega), (by simp; omega), (rdI_succ i0 (by omega) hrd (rdRow_eq q69 q80 q91 q102 q113 q124))⟩
    · have h154 : (!(s.isSome)) = true := by simpa using h50
      have h155 : (s.isSome) = false := by simpa using h154
      refine WC.exit ?_
      refine WX.seqE ?_
      refine WX.seqE ?_
      refine WX.blockE ?_
      refine WX.seqN ?_
      refine WC.seq ?_
      refine WC.region ?_
      refine WL.load (v := .agg #[.slice Ao done.length co, .int .i64 (n16 : Int)]) (ldN (T := 24) (i := 0) (m := 2) (l := [.slice Ao done.length co, .int .i64 (n16 : Int)]) hb46) (k := ?_)
      refine WL.callG (d := 66) (f := 24) (args := #[.agg #[.slice Ao done.length co, .int .i64 (n16 : Int)]]) (u14Bytes_c (cp := co) (md := (n16 : Int)) (hb47.sl ekRow) (by first | omega | (simp; omega))) (k := fun e_ w156 h_ => ⟨.tuple #[.string ⟨(bytesT (⟨done, (n16 : Int)⟩ : GTable)).toArray⟩, .int .i64 (bytesE (⟨done, (n16 : Int)⟩ : GTable))], h_.1, ?_⟩)
      have k157 := h_.2; clear h_
      replace hb43 := k157.heap hb43 id
      replace hb44 := hb44.keeps k157 id
      replace hb46 := k157.heap hb46 id
      replace hb47 := hb47.adds k157
      replace K := K.trans (k157.any _)
      refine WL.op (d := 64) (.tuple #[.string ⟨(bytesT (⟨done, (n16 : Int)⟩ : GTable)).toArray⟩, .int .i64 (bytesE (⟨done, (n16 : Int)⟩ : GTable))]) (k := ?_)
      refine WL.op (d := 67) (.string ⟨(bytesT (⟨done, (n16 : Int)⟩ : GTable)).toArray⟩) (k := ?_)
      refine WL.op (d := 68) (.int .i64 (bytesE (⟨done, (n16 : Int)⟩ : GTable))) (k := ?_)
      refine WL.op (d := 9) (.string ⟨(bytesT (⟨done, (n16 : Int)⟩ : GTable)).toArray⟩) (k := ?_)
      refine WL.op (d := 10) (.int .i64 (bytesE (⟨done, (n16 : Int)⟩ : GTable))) (k := ?_)
      refine WL.nil ?_
      refine WX.seqN ?_
      refine WC.seq ?_
      refine WC.seq ?_
      refine WC.region ?_
      refine WL.op (d := 69) (.pointer (some ⟨b7, 0, none⟩)) (k := ?_)
      refine WL.callG (d := 70) (f := 68) (args := #[.pointer (some ⟨b7, 0, none⟩)]) (qEnd_any _ _ w156 hb44) (k := fun e_ w_ h_ => ⟨.bool (decide (s = some [])), h_.1, ?_⟩)
      obtain ⟨-, rfl⟩ := h_
      refine WL.op (d := 71) (.bool (!(decide (s = some [])))) (k := ?_)
      refine WL.op (d := 72) (.bool (!(decide (s = some [])))) (k := ?_)
      refine bsplit (!(decide (s = some []))) (fun h158 => ?_) (fun h158 => ?_)
      · have h159 : (decide (s = some [])) = false := by simpa using h158
        have ph159 := of_decide_eq_false h159
        refine WL.rw (t := 72) (v := .bool true) (congrArg Value.bool h158) (k := ?_)
        refine WL.skip (d := 73) (k := ?_)
        refine WL.skip (d := 74) (k := ?_)
        refine WL.op (d := 75) (.bool true) (k := ?_)
        refine WL.op (d := 76) (.bool true) (k := ?_)
        refine WL.skip (d := 77) (k := ?_)
        refine WL.skip (d := 78) (k := ?_)
        refine WL.skip (d := 79) (k := ?_)
        refine WL.op (d := 80) (.bool true) (k := ?_)
        refine WL.nil ?_
        refine WX.seqN ?_
        refine WC.condT (k := ?_)
        refine WC.seq ?_
        refine WC.region ?_
        refine WL.op (d := 81) (.agg #[.slice none 0 0, .int .i64 0]) (k := ?_)
        refine WL.store (v := .agg #[.slice none 0 0, .int .i64 0]) (i := 0) (cs' := #[.slice none 0 0, .int .i64 0]) hb43 (k := fun w160 hb161 k162 => ?_)
        replace hb44 := hb44.keeps k162 (Ne.symm n13)
        replace hb46 := k162.heap hb46 (Ne.symm n29)
        replace hb47 := hb47.keeps k162 (fun i hi e => (hb47.offT hb43 (by decide)) (e ▸ hi))
        replace K := K.trans' k162 (fun i hi e => absurd (e ▸ hi) (Nat.not_lt.2 z6))
        clear hb43
        refine WL.op (d := 3) (.int .i64 10) (k := ?_)
        refine WL.nil ?_
        refine WX.seqN ?_
        refine WC.ret ?_
        refine WX.seqR ?_
        refine WX.ret (rs := [.cell 2 24, .tmp 3]) [.agg #[.slice none 0 0, .int .i64 0], .int .i64 10] (.tuple #[.agg #[.slice none 0 0, .int .i64 0], .int .i64 10]) ⟨⟨_, (by kernel_rfl), ldN (T := 24) (i := 0) (m := 2) (l := [.slice none 0 0, .int .i64 0]) hb161⟩, (by kernel_rfl), trivial⟩ (k := ?_)
        exact TabRes.nil (readT_bad q18 q37 hrd h155).symm rfl K
      · have h163 : (decide (s = some [])) = true := by simpa using h158
        have ph163 := of_decide_eq_true h163
        refine WL.rw (t := 72) (v := .bool false) (congrArg Value.bool h158) (k := ?_)
        refine WL.op (d := 73) (.int .i64 (bytesE (⟨done, (n16 : Int)⟩ : GTable))) (k := ?_)
        refine WL.op (d := 74) (.bool ((bytesE (⟨done, (n16 : Int)⟩ : GTable)) != 0)) (k := ?_)
        refine WL.op (d := 75) (.bool ((bytesE (⟨done, (n16 : Int)⟩ : GTable)) != 0)) (k := ?_)
        refine WL.op (d := 76) (.bool ((bytesE (⟨done, (n16 : Int)⟩ : GTable)) != 0)) (k := ?_)
        refine bsplit ((bytesE (⟨done, (n16 : Int)⟩ : GTable)) != 0) (fun h164 => ?_) (fun h164 => ?_)
        · have ph164 := bne_iff_ne.1 h164
          refine WL.rw (t := 76) (v := .bool true) (congrArg Value.bool h164) (k := ?_)
          refine WL.skip (d := 77) (k := ?_)
          refine WL.skip (d := 78) (k := ?_)
          refine WL.skip (d := 79) (k := ?_)
          refine WL.op (d := 80) (.bool true) (k := ?_)
          refine WL.nil ?_
          refine WX.seqN ?_
          refine WC.condT (k := ?_)
          refine WC.seq ?_
          refine WC.region ?_
          refine WL.op (d := 81) (.agg #[.slice none 0 0, .int .i64 0]) (k := ?_)
          refine WL.store (v := .agg #[.slice none 0 0, .int .i64 0]) (i := 0) (cs' := #[.slice none 0 0, .int .i64 0]) hb43 (k := fun w165 hb166 k167 => ?_)
          replace hb44 := hb44.keeps k167 (Ne.symm n13)
          replace hb46 := k167.heap hb46 (Ne.symm n29)
          replace hb47 := hb47.keeps k167 (fun i hi e => (hb47.offT hb43 (by decide)) (e ▸ hi))
          replace K := K.trans' k167 (fun i hi e => absurd (e ▸ hi) (Nat.not_lt.2 z6))
          clear hb43
          refine WL.op (d := 3) (.int .i64 10) (k := ?_)
          refine WL.nil ?_
          refine WX.seqN ?_
          refine WC.ret ?_
          refine WX.seqR ?_
          refine WX.ret (rs := [.cell 2 24, .tmp 3]) [.agg #[.slice none 0 0, .int .i64 0], .int .i64 10] (.tuple #[.agg #[.slice none 0 0, .int .i64 0], .int .i64 10]) ⟨⟨_, (by kernel_rfl), ldN (T := 24) (i := 0) (m := 2) (l := [.slice none 0 0, .int .i64 0]) hb166⟩, (by kernel_rfl), trivial⟩ (k := ?_)
          exfalso
          have g_ := h155
          rw [ph163] at g_
          simp at g_
        · have ph164 := of_bne_false h164
          refine WL.rw (t := 76) (v := .bool false) (congrArg Value.bool h164) (k := ?_)
          refine WL.op (d := 77) (.string ⟨(bytesT (⟨done, (n16 : Int)⟩ : GTable)).toArray⟩) (k := ?_)
          refine WL.op (d := 78) (.string ⟨(l).toArray⟩) (k := ?_)
          refine WL.opE (d := 79) (.bool !(ByteArray.toList ⟨(bytesT (⟨done, (n16 : Int)⟩ : GTable)).toArray⟩ == ByteArray.toList ⟨(l).toArray⟩)) (v := .bool (!(decide (bytesT (⟨done, (n16 : Int)⟩ : GTable) = l)))) (str_neq _ _) (k := ?_)
          refine WL.op (d := 80) (.bool (!(decide (bytesT (⟨done, (n16 : Int)⟩ : GTable) = l)))) (k := ?_)
          refine WL.nil ?_
          refine WX.seqN ?_
          refine WC.cond (b := !(decide (bytesT (⟨done, (n16 : Int)⟩ : GTable) = l))) (ht := fun h168 => ?_) (hf := fun h168 => ?_)
          · have h169 : (decide (bytesT (⟨done, (n16 : Int)⟩ : GTable) = l)) = false := by simpa using h168
            have ph169 := of_decide_eq_false h169
            refine WC.seq ?_
            refine WC.region ?_
            refine WL.op (d := 81) (.agg #[.slice none 0 0, .int .i64 0]) (k := ?_)
            refine WL.store (v := .agg #[.slice none 0 0, .int .i64 0]) (i := 0) (cs' := #[.slice none 0 0, .int .i64 0]) hb43 (k := fun w170 hb171 k172 => ?_)
            replace hb44 := hb44.keeps k172 (Ne.symm n13)
            replace hb46 := k172.heap hb46 (Ne.symm n29)
            replace hb47 := hb47.keeps k172 (fun i hi e => (hb47.offT hb43 (by decide)) (e ▸ hi))
            replace K := K.trans' k172 (fun i hi e => absurd (e ▸ hi) (Nat.not_lt.2 z6))
            clear hb43
            refine WL.op (d := 3) (.int .i64 10) (k := ?_)
            refine WL.nil ?_
            refine WX.seqN ?_
            refine WC.ret ?_
            refine WX.seqR ?_
            refine WX.ret (rs := [.cell 2 24, .tmp 3]) [.agg #[.slice none 0 0, .int .i64 0], .int .i64 10] (.tuple #[.agg #[.slice none 0 0, .int .i64 0], .int .i64 10]) ⟨⟨_, (by kernel_rfl), ldN (T := 24) (i := 0) (m := 2) (l := [.slice none 0 0, .int .i64 0]) hb171⟩, (by kernel_rfl), trivial⟩ (k := ?_)
            exfalso
            have g_ := h155
            rw [ph163] at g_
            simp at g_
          · have h173 : (decide (bytesT (⟨done, (n16 : Int)⟩ : GTable) = l)) = true := by simpa using h168
            have ph173 := of_decide_eq_true h173
            refine WC.skip ?_
            refine WX.seqN ?_
            refine WC.seq ?_
            refine WC.region ?_
            refine WL.load (v := .agg #[.slice Ao done.length co, .int .i64 (n16 : Int)]) (ldN (T := 24) (i := 0) (m := 2) (l := [.slice Ao done.length co, .int .i64 (n16 : Int)]) hb46) (k := ?_)
            refine WL.store (v := .agg #[.slice Ao done.length co, .int .i64 (n16 : Int)]) (i := 0) (cs' := #[.slice Ao done.length co, .int .i64 (n16 : Int)]) hb43 (k := fun w174 hb175 k176 => ?_)
            replace hb44 := hb44.keeps k176 (Ne.symm n13)
            replace hb46 := k176.heap hb46 (Ne.symm n29)
            replace hb47 := hb47.keeps k176 (fun i hi e => (hb47.offT hb43 (by decide)) (e ▸ hi))
            replace K := K.trans' k176 (fun i hi e => absurd (e ▸ hi) (Nat.not_lt.2 z6))
            clear hb43
            refine WL.op (d := 3) (.int .i64 0) (k := ?_)
            refine WL.nil ?_
            refine WX.seqN ?_
            refine WC.ret ?_
            refine WX.ret (rs := [.cell 2 24, .tmp 3]) [.agg #[.slice Ao done.length co, .int .i64 (n16 : Int)], .int .i64 0] (.tuple #[.agg #[.slice Ao done.length co, .int .i64 (n16 : Int)], .int .i64 0]) ⟨⟨_, (by kernel_rfl), ldN (T := 24) (i := 0) (m := 2) (l := [.slice Ao done.length co, .int .i64 (n16 : Int)]) hb175⟩, (by kernel_rfl), trivial⟩ (k := ?_)
            exfalso
            have g_ := h155
            rw [ph163] at g_
            simp at g_
  · have ph49 := of_decide_eq_false h49
    refine WL.rw (t := 22) (v := .bool false) (congrArg Value.bool h49) (k := ?_)
    refine WL.skip (d := 23) (k := ?_)
    refine WL.skip (d := 24) (k := ?_)
    refine WL.skip (d := 25) (k := ?_)
    refine WL.skip (d := 26) (k := ?_)
    refine WL.skip (d := 27) (k := ?_)
    refine WL.op (d := 28) (.bool false) (k := ?_)
    refine WL.nil ?_
    refine WX.seqN ?_
    refine WC.condF (k := ?_)
    refine WC.exit ?_
    refine WX.seqE ?_
    refine WX.seqE ?_
    refine WX.blockE ?_
    refine WX.seqN ?_
    refine WC.seq ?_
    refine WC.region ?_
    refine WL.load (v := .agg #[.slice Ao done.length co, .int .i64 (n16 : Int)]) (ldN (T := 24) (i := 0) (m := 2) (l := [.slice Ao done.length co, .int .i64 (n16 : Int)]) hb46) (k := ?_)
    refine WL.callG (d := 66) (f := 24) (args := #[.agg #[.slice Ao done.length co, .int .i64 (n16 : Int)]]) (u14Bytes_c (cp := co) (md := (n16 : Int)) (hb47.sl ekRow) (by first | omega | (simp; omega))) (k := fun e_ w177 h_ => ⟨.tuple #[.string ⟨(bytesT (⟨done, (n16 : Int)⟩ : GTable)).toArray⟩, .int .i64 (bytesE (⟨done, (n16 : Int)⟩ : GTable))], h_.1, ?_⟩)
    have k178 := h_.2; clear h_
    replace hb43 := k178.heap hb43 id
    replace hb44 := hb44.keeps k178 id
    replace hb46 := k178.heap hb46 id
    replace hb47 := hb47.adds k178
    replace K := K.trans (k178.any _)
    refine WL.op (d := 64) (.tuple #[.string ⟨(bytesT (⟨done, (n16 : Int)⟩ : GTable)).toArray⟩, .int .i64 (bytesE (⟨done, (n16 : Int)⟩ : GTable))]) (k := ?_)
    refine WL.op (d := 67) (.string ⟨(bytesT (⟨done, (n16 : Int)⟩ : GTable)).toArray⟩) (k := ?_)
    refine WL.op (d := 68) (.int .i64 (bytesE (⟨done, (n16 : Int)⟩ : GTable))) (k := ?_)
    refine WL.op (d := 9) (.string ⟨(bytesT (⟨done, (n16 : Int)⟩ : GTable)).toArray⟩) (k := ?_)
    refine WL.op (d := 10) (.int .i64 (bytesE (⟨done, (n16 : Int)⟩ : GTable))) (k := ?_)
    refine WL.nil ?_
    refine WX.seqN ?_
    refine WC.seq ?_
    refine WC.seq ?_
    refine WC.region ?_
    refine WL.op (d := 69) (.pointer (some ⟨b7, 0, none⟩)) (k := ?_)
    refine WL.callG (d := 70) (f := 68) (args := #[.pointer (some ⟨b7, 0, none⟩)]) (qEnd_any _ _ w177 hb44) (k := fun e_ w_ h_ => ⟨.bool (decide (s = some [])), h_.1, ?_⟩)
    obtain ⟨-, rfl⟩ := h_
    refine WL.op (d := 71) (.bool (!(decide (s = some [])))) (k := ?_)
    refine WL.op (d := 72) (.bool (!(decide (s = some [])))) (k := ?_)
    refine bsplit (!(decide (s = some []))) (fun h179 => ?_) (fun h179 => ?_)
    · have h180 : (decide (s = some [])) = false := by simpa using h179
      have ph180 := of_decide_eq_false h180
      refine WL.rw (t := 72) (v := .bool true) (congrArg Value.bool h179) (k := ?_)
      refine WL.skip (d := 73) (k := ?_)
      refine WL.skip (d := 74) (k := ?_)
      refine WL.op (d := 75) (.bool true) (k := ?_)
      refine WL.op (d := 76) (.bool true) (k := ?_)
      refine WL.skip (d := 77) (k := ?_)
      refine WL.skip (d := 78) (k := ?_)
      refine WL.skip (d := 79) (k := ?_)
      refine WL.op (d := 80) (.bool true) (k := ?_)
      refine WL.nil ?_
      refine WX.seqN ?_
      refine WC.condT (k := ?_)
      refine WC.seq ?_
      refine WC.region ?_
      refine WL.op (d := 81) (.agg #[.slice none 0 0, .int .i64 0]) (k := ?_)
      refine WL.store (v := .agg #[.slice none 0 0, .int .i64 0]) (i := 0) (cs' := #[.slice none 0 0, .int .i64 0]) hb43 (k := fun w181 hb182 k183 => ?_)
      replace hb44 := hb44.keeps k183 (Ne.symm n13)
      replace hb46 := k183.heap hb46 (Ne.symm n29)
      replace hb47 := hb47.keeps k183 (fun i hi e => (hb47.offT hb43 (by decide)) (e ▸ hi))
      replace K := K.trans' k183 (fun i hi e => absurd (e ▸ hi) (Nat.not_lt.2 z6))
      clear hb43
      refine WL.op (d := 3) (.int .i64 10) (k := ?_)
      refine WL.nil ?_
      refine WX.seqN ?_
      refine WC.ret ?_
      refine WX.seqR ?_
      refine WX.ret (rs := [.cell 2 24, .tmp 3]) [.agg #[.slice none 0 0, .int .i64 0], .int .i64 10] (.tuple #[.agg #[.slice none 0 0, .int .i64 0], .int .i64 10]) ⟨⟨_, (by kernel_rfl), ldN (T := 24) (i := 0) (m := 2) (l := [.slice none 0 0, .int .i64 0]) hb182⟩, (by kernel_rfl), trivial⟩ (k := ?_)
      have re_ := readT_end q18 q37 hrd (by omega)
      exact TabRes.nil (by rw [re_]; simp [GTable.zero, h180, ph180]) rfl K
    · have h184 : (decide (s = some [])) = true := by simpa using h179
      have ph184 := of_decide_eq_true h184
      refine WL.rw (t := 72) (v := .bool false) (congrArg Value.bool h179) (k := ?_)
      refine WL.op (d := 73) (.int .i64 (bytesE (⟨done, (n16 : Int)⟩ : GTable))) (k := ?_)
      refine WL.op (d := 74) (.bool ((bytesE (⟨done, (n16 : Int)⟩ : GTable)) != 0)) (k := ?_)
      refine WL.op (d := 75) (.bool ((bytesE (⟨done, (n16 : Int)⟩ : GTable)) != 0)) (k := ?_)
      refine WL.op (d := 76) (.bool ((bytesE (⟨done, (n16 : Int)⟩ : GTable)) != 0)) (k := ?_)
      refine bsplit ((bytesE (⟨done, (n16 : Int)⟩ : GTable)) != 0) (fun h185 => ?_) (fun h185 => ?_)
      · have ph185 := bne_iff_ne.1 h185
        refine WL.rw (t := 76) (v := .bool true) (congrArg Value.bool h185) (k := ?_)
        refine WL.skip (d := 77) (k := ?_)
        refine WL.skip (d := 78) (k := ?_)
        refine WL.skip (d := 79) (k := ?_)
        refine WL.op (d := 80) (.bool true) (k := ?_)
        refine WL.nil ?_
        refine WX.seqN ?_
        refine WC.condT (k := ?_)
        refine WC.seq ?_
        refine WC.region ?_
        refine WL.op (d := 81) (.agg #[.slice none 0 0, .int .i64 0]) (k := ?_)
        refine WL.store (v := .agg #[.slice none 0 0, .int .i64 0]) (i := 0) (cs' := #[.slice none 0 0, .int .i64 0]) hb43 (k := fun w186 hb187 k188 => ?_)
        replace hb44 := hb44.keeps k188 (Ne.symm n13)
        replace hb46 := k188.heap hb46 (Ne.symm n29)
        replace hb47 := hb47.keeps k188 (fun i hi e => (hb47.offT hb43 (by decide)) (e ▸ hi))
        replace K := K.trans' k188 (fun i hi e => absurd (e ▸ hi) (Nat.not_lt.2 z6))
        clear hb43
        refine WL.op (d := 3) (.int .i64 10) (k := ?_)
        refine WL.nil ?_
        refine WX.seqN ?_
        refine WC.ret ?_
        refine WX.seqR ?_
        refine WX.ret (rs := [.cell 2 24, .tmp 3]) [.agg #[.slice none 0 0, .int .i64 0], .int .i64 10] (.tuple #[.agg #[.slice none 0 0, .int .i64 0], .int .i64 10]) ⟨⟨_, (by kernel_rfl), ldN (T := 24) (i := 0) (m := 2) (l := [.slice none 0 0, .int .i64 0]) hb187⟩, (by kernel_rfl), trivial⟩ (k := ?_)
        have re_ := readT_end q18 q37 hrd (by omega)
        have tk_ := bytesE_no ph185
        exact TabRes.nil (by rw [re_]; simp [GTable.zero, h184, ph184, tk_]) rfl K
      · have ph185 := of_bne_false h185
        refine WL.rw (t := 76) (v := .bool false) (congrArg Value.bool h185) (k := ?_)
        refine WL.op (d := 77) (.string ⟨(bytesT (⟨done, (n16 : Int)⟩ : GTable)).toArray⟩) (k := ?_)
        refine WL.op (d := 78) (.string ⟨(l).toArray⟩) (k := ?_)
        refine WL.opE (d := 79) (.bool !(ByteArray.toList ⟨(bytesT (⟨done, (n16 : Int)⟩ : GTable)).toArray⟩ == ByteArray.toList ⟨(l).toArray⟩)) (v := .bool (!(decide (bytesT (⟨done, (n16 : Int)⟩ : GTable) = l)))) (str_neq _ _) (k := ?_)
        refine WL.op (d := 80) (.bool (!(decide (bytesT (⟨done, (n16 : Int)⟩ : GTable) = l)))) (k := ?_)
        refine WL.nil ?_
        refine WX.seqN ?_
        refine WC.cond (b := !(decide (bytesT (⟨done, (n16 : Int)⟩ : GTable) = l))) (ht := fun h189 => ?_) (hf := fun h189 => ?_)
        · have h190 : (decide (bytesT (⟨done, (n16 : Int)⟩ : GTable) = l)) = false := by simpa using h189
          have ph190 := of_decide_eq_false h190
          refine WC.seq ?_
          refine WC.region ?_
          refine WL.op (d := 81) (.agg #[.slice none 0 0, .int .i64 0]) (k := ?_)
          refine WL.store (v := .agg #[.slice none 0 0, .int .i64 0]) (i := 0) (cs' := #[.slice none 0 0, .int .i64 0]) hb43 (k := fun w191 hb192 k193 => ?_)
          replace hb44 := hb44.keeps k193 (Ne.symm n13)
          replace hb46 := k193.heap hb46 (Ne.symm n29)
          replace hb47 := hb47.keeps k193 (fun i hi e => (hb47.offT hb43 (by decide)) (e ▸ hi))
          replace K := K.trans' k193 (fun i hi e => absurd (e ▸ hi) (Nat.not_lt.2 z6))
          clear hb43
          refine WL.op (d := 3) (.int .i64 10) (k := ?_)
          refine WL.nil ?_
          refine WX.seqN ?_
          refine WC.ret ?_
          refine WX.seqR ?_
          refine WX.ret (rs := [.cell 2 24, .tmp 3]) [.agg #[.slice none 0 0, .int .i64 0], .int .i64 10] (.tuple #[.agg #[.slice none 0 0, .int .i64 0], .int .i64 10]) ⟨⟨_, (by kernel_rfl), ldN (T := 24) (i := 0) (m := 2) (l := [.slice none 0 0, .int .i64 0]) hb192⟩, (by kernel_rfl), trivial⟩ (k := ?_)
          have re_ := readT_end q18 q37 hrd (by omega)
          have tk_ := bytesE_ok ph185
          exact absurd ((bytesT_ok tk_).trans (read_back q18 q37 hrd (by omega) ph184)) ph190
        · have h194 : (decide (bytesT (⟨done, (n16 : Int)⟩ : GTable) = l)) = true := by simpa using h189
          have ph194 := of_decide_eq_true h194
          refine WC.skip ?_
          refine WX.seqN ?_
          refine WC.seq ?_
          refine WC.region ?_
          refine WL.load (v := .agg #[.slice Ao done.length co, .int .i64 (n16 : Int)]) (ldN (T := 24) (i := 0) (m := 2) (l := [.slice Ao done.length co, .int .i64 (n16 : Int)]) hb46) (k := ?_)
          refine WL.store (v := .agg #[.slice Ao done.length co, .int .i64 (n16 : Int)]) (i := 0) (cs' := #[.slice Ao done.length co, .int .i64 (n16 : Int)]) hb43 (k := fun w195 hb196 k197 => ?_)
          replace hb44 := hb44.keeps k197 (Ne.symm n13)
          replace hb46 := k197.heap hb46 (Ne.symm n29)
          replace hb47 := hb47.keeps k197 (fun i hi e => (hb47.offT hb43 (by decide)) (e ▸ hi))
          replace K := K.trans' k197 (fun i hi e => absurd (e ▸ hi) (Nat.not_lt.2 z6))
          clear hb43
          refine WL.op (d := 3) (.int .i64 0) (k := ?_)
          refine WL.nil ?_
          refine WX.seqN ?_
          refine WC.ret ?_
          refine WX.ret (rs := [.cell 2 24, .tmp 3]) [.agg #[.slice Ao done.length co, .int .i64 (n16 : Int)], .int .i64 0] (.tuple #[.agg #[.slice Ao done.length co, .int .i64 (n16 : Int)], .int .i64 0]) ⟨⟨_, (by kernel_rfl), ldN (T := 24) (i := 0) (m := 2) (l := [.slice Ao done.length co, .int .i64 (n16 : Int)]) hb196⟩, (by kernel_rfl), trivial⟩ (k := ?_)
          have re_ := readT_end q18 q37 hrd (by omega)
          have tk_ := bytesE_ok ph185
          exact TabRes.mk (by rw [re_]; simp [GTable.zero, h184, ph184, tk_]) rfl hb47 K ol48

end Go.Proofs.Ytpkcohhfkeinmaa
