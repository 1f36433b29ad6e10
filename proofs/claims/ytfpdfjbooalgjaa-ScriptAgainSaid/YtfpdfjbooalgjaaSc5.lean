/- Commands are read, one by one. -/
import Derived.Test.YtfpdfjbooalgjaaSc4
namespace Go.Proofs.Ytfpdfjbooalgjaa
open Go.RowKit
set_option linter.unusedVariables false
set_option linter.unusedSimpArgs false

set_option maxRecDepth 100000 in
set_option maxHeartbeats 4000000 in
theorem sRead1_c {bs ba bo : Nat} {l : List UInt8} {pt : Nat} {A : Option Addr} {cap : Nat} {done : List GCmd} {w : World} (hs : w.heap[bs]? = some (.cells #[.string ⟨l.toArray⟩] 9 (0, 0))) (ha : w.heap[ba]? = some (.cells #[.int .i64 (pt : Int)] 3 (0, 0))) (ho : w.heap[bo]? = some (.cells #[.slice A done.length cap] 22 (0, 0))) (hA : OwAt cmdC 15 32 A cap done w) (hF : FtsO 64 done w) (n1 : bs ≠ ba) (n2 : bs ≠ bo) (n3 : ba ≠ bo) (hl : l.length ≤ 1000000) (hat : pt ≤ l.length) (hd : done.length ≤ 1000000) : Calls Try.prog 31 #[.pointer (some ⟨bs, 0, none⟩), .pointer (some ⟨ba, 0, none⟩), .pointer (some ⟨bo, 0, none⟩)] w fun e w' => ∃ (is : Bool) (pt' : Nat) (A' : Option Addr) (cap' : Nat) (done' : List GCmd), e = .returned (.bool is) ∧ NextRes l pt done is pt' done' ∧ w'.heap[bs]? = some (.cells #[.string ⟨l.toArray⟩] 9 (0, 0)) ∧ w'.heap[ba]? = some (.cells #[.int .i64 (pt' : Int)] 3 (0, 0)) ∧ w'.heap[bo]? = some (.cells #[.slice A' done'.length cap'] 22 (0, 0)) ∧ OwAt cmdC 15 32 A' cap' done' w' ∧ FtsO 64 done' w' ∧ Keeps (fun i => i = ba ∨ i = bo ∨ blk A = some i) w w' ∧ (blk A' = blk A ∨ ∃ k, blk A' = some k ∧ w.heap.size ≤ k) := by
  have K : Keeps (fun i => i = ba ∨ i = bo ∨ blk A = some i) w w := Keeps.refl _ w
  refine Calls.start Try.func31 rfl (by kernel_rfl) ?_
  refine WC.seq ?_
  refine WC.region ?_
  refine WL.op (d := 3) (.bool false) (k := ?_)
  refine WL.nil ?_
  refine WX.seqN ?_
  refine WC.seq ?_
  refine WC.region ?_
  refine WL.load (v := .string ⟨(l).toArray⟩) (ld1 (T := 9) (i := 0) hs) (k := ?_)
  refine WL.load (v := .int .i64 (pt : Int)) (ld1 (T := 3) (i := 0) ha) (k := ?_)
  refine WL.cut (d := 9) (vx := .string ⟨(l).toArray⟩) (lo' := (some (.int .i64 (pt : Int)))) (hi' := none) (mx' := none) (v := .string ⟨(List.drop pt l).toArray⟩) ((by have h_ := run_cut (P := Try.prog) (w := w) (lo := (some (.int .i64 (pt : Int)))) (hi := none) (T := 9) (a := pt) (b := l.length) (l := l) (by kernel_rfl) (.inr ⟨_, _, rfl, by omega⟩) (.inl ⟨rfl, rfl⟩) (by first | omega | (simp; omega)) (by first | omega | (simp; omega)); rw [List.take_length] at h_; exact h_)) (k := ?_)
  refine WL.callG (d := 10) (f := 32) (args := #[.string ⟨(List.drop pt l).toArray⟩]) (oRead_x (List.drop pt l) w) (k := fun e_ w1 h_ => ?_)
  obtain ⟨b2, g3, rfl, hr4, k5⟩ := h_
  refine ⟨_, rfl, ?_⟩
  have z6 := Nat.le_trans K.size g3
  have n7 : bs ≠ b2 := Nat.ne_of_lt (Nat.lt_of_lt_of_le (lt_of_heap hs) g3)
  have n8 : ba ≠ b2 := Nat.ne_of_lt (Nat.lt_of_lt_of_le (lt_of_heap ha) g3)
  have n9 := OwAt.off_new hA g3
  have n10 : bo ≠ b2 := Nat.ne_of_lt (Nat.lt_of_lt_of_le (lt_of_heap ho) g3)
  replace hs := k5.heap hs id
  replace ha := k5.heap ha id
  replace hA := hA.adds k5
  replace ho := k5.heap ho id
  replace hF := hF.adds k5
  replace K := K.trans (k5.any _)
  refine WL.op (d := 4) (.pointer (some ⟨b2, 0, none⟩)) (k := ?_)
  refine WL.nil ?_
  refine WX.seqN ?_
  refine WC.seq ?_
  refine WC.region ?_
  refine WL.op (d := 12) (.pointer (some ⟨b2, 0, none⟩)) (k := ?_)
  refine WL.callG (d := 13) (f := 33) (args := #[.pointer (some ⟨b2, 0, none⟩)]) (sTakes_c hr4 (by show List.length (List.drop pt l) ≤ _; first | omega | (simp; omega))) (k := fun e_ w11 h_ => ?_)
  obtain ⟨c12, s13, is14, rfl, g15, ho16, hr17, k18, l19, ol20⟩ := h_
  refine ⟨_, rfl, ?_⟩
  have ol21 := fun i h => Nat.le_trans K.size (ol20 i h)
  replace hs := k18.heap hs n7
  replace ha := k18.heap ha n8
  replace hA := hA.keeps k18 (fun i hi e => (n9) (e ▸ hi))
  replace ho := k18.heap ho n10
  replace hF := hF.keepsR k18 hr4
  replace K := K.trans' k18 (fun i hi e => absurd (e ▸ hi) (Nat.not_lt.2 z6))
  clear hr4 ol20
  refine WL.op (d := 11) (.tuple #[GCmd.val c12, .bool is14]) (k := ?_)
  refine WL.op (d := 14) (GCmd.val c12) (k := ?_)
  refine WL.op (d := 15) (.bool is14) (k := ?_)
  refine WL.new (d := 5) (T := 32) #[.int .i64 0, .int .i64 0, .int .i64 0, .int .i64 0, .int .i64 0, .int .i64 0, .int .i64 0, .bool false, .int .i64 0, .int .i64 0, .int .i64 0, .int .i64 0, .int .i64 0, .int .i64 0, .slice none 0 0] (k := fun b22 w23 g24 hb25 k26 => ?_)
  have z27 := Nat.le_trans K.size g24
  have n28 : bs ≠ b22 := Nat.ne_of_lt (Nat.lt_of_lt_of_le (lt_of_heap hs) g24)
  have n29 : ba ≠ b22 := Nat.ne_of_lt (Nat.lt_of_lt_of_le (lt_of_heap ha) g24)
  have n30 := OwAt.off_new hA g24
  have n31 : bo ≠ b22 := Nat.ne_of_lt (Nat.lt_of_lt_of_le (lt_of_heap ho) g24)
  have n32 : b2 ≠ b22 := Nat.ne_of_lt (Nat.lt_of_lt_of_le hr17.lt g24)
  have n33 := OwAt.off_new ho16 g24
  replace hs := k26.heap hs id
  replace ha := k26.heap ha id
  replace hA := hA.adds k26
  replace ho := k26.heap ho id
  replace hr17 := hr17.keeps k26 id
  replace ho16 := ho16.adds k26
  replace hF := hF.adds k26
  replace K := K.trans (k26.any _)
  refine WL.store (v := GCmd.val c12) (i := 0) (cs' := (Value.cells (GCmd.val c12))) hb25 (k := fun w34 hb35 k36 => ?_)
  replace hs := k36.heap hs n28
  replace ha := k36.heap ha n29
  replace hA := hA.keeps k36 (fun i hi e => (n30) (e ▸ hi))
  replace ho := k36.heap ho n31
  replace hr17 := hr17.keeps k36 n32
  replace ho16 := ho16.keeps k36 (fun i hi e => (n33) (e ▸ hi))
  replace hF := hF.keepsT k36 hb25 (by decide)
  replace K := K.trans' k36 (fun i hi e => absurd (e ▸ hi) (Nat.not_lt.2 z27))
  clear hb25
  refine WL.op (d := 6) (.bool is14) (k := ?_)
  refine WL.nil ?_
  refine WX.seqN ?_
  refine WC.seq ?_
  refine WC.seq ?_
  refine WC.region ?_
  refine WL.op (d := 16) (.bool is14) (k := ?_)
  refine WL.nil ?_
  refine WX.seqN ?_
  refine WC.cond (b := is14) (ht := fun h37 => ?_) (hf := fun h37 => ?_)
  · refine WC.seq ?_
    refine WC.region ?_
    refine WL.load (v := .slice A done.length cap) (ld1 (T := 22) (i := 0) ho) (k := ?_)
    refine WL.load (v := GCmd.val c12) (ldN (T := 32) (i := 0) (m := 15) (l := (Value.cells (GCmd.val c12)).toList) hb35) (k := ?_)
    refine WL.newF (d := 19) (T := 32) (Value.cells (GCmd.val c12)) (fun b => .slice (some ⟨b, 0, none⟩) 1 1) (k := fun b38 w39 g40 hb41 k42 => ?_)
    have z43 := Nat.le_trans K.size g40
    have n44 : bs ≠ b38 := Nat.ne_of_lt (Nat.lt_of_lt_of_le (lt_of_heap hs) g40)
    have n45 : ba ≠ b38 := Nat.ne_of_lt (Nat.lt_of_lt_of_le (lt_of_heap ha) g40)
    have n46 := OwAt.off_new hA g40
    have n47 : bo ≠ b38 := Nat.ne_of_lt (Nat.lt_of_lt_of_le (lt_of_heap ho) g40)
    have n48 : b2 ≠ b38 := Nat.ne_of_lt (Nat.lt_of_lt_of_le hr17.lt g40)
    have n49 := OwAt.off_new ho16 g40
    have n50 : b22 ≠ b38 := Nat.ne_of_lt (Nat.lt_of_lt_of_le (lt_of_heap hb35) g40)
    replace hs := k42.heap hs id
    replace ha := k42.heap ha id
    replace hA := hA.adds k42
    replace ho := k42.heap ho id
    replace hr17 := hr17.keeps k42 id
    replace ho16 := ho16.adds k42
    replace hb35 := k42.heap hb35 id
    replace hF := hF.adds k42
    replace K := K.trans (k42.any _)
    refine WL.append (d := 20) (T := 22) (cl := cmdC) (xs := done) (ys := [c12]) (c := 1) ekCmd hA (SlAt.of_lit (ys := [c12]) ekCmd hb41 (by kernel_rfl)) (by simp; omega) (k := fun A51 c52 w53 ho54 k55 n56 => ?_)
    have ol57 := nlink_up K n56
    have n58 := off_step n56 n9 hr17.lt
    have n59 := off_step n56 n30 (lt_of_heap hb35)
    replace hs := k55.heap hs (hA.offT hs (by decide))
    replace ha := k55.heap ha (hA.offT ha (by decide))
    replace ho := k55.heap ho (hA.offT ho (by decide))
    replace hr17 := hr17.keeps k55 n9
    replace ho16 := ho16.keeps k55 (OwAt.offOw ho16 hA (by decide))
    replace hb35 := k55.heap hb35 n30
    replace hF := hF.keepsOw k55 hA (by decide)
    replace K := K.trans' k55 (fun i hi e => .inr (.inr e))
    clear hA
    refine WL.store (v := .slice A51 ((done ++ [c12]).length) c52) (i := 0) (cs' := #[.slice A51 ((done ++ [c12]).length) c52]) ho (k := fun w60 hb61 k62 => ?_)
    replace hs := k62.heap hs n2
    replace ha := k62.heap ha n3
    replace ho54 := ho54.keeps k62 (fun i hi e => (ho54.offT ho (by decide)) (e ▸ hi))
    replace hr17 := hr17.keeps k62 (Ne.symm n10)
    replace ho16 := ho16.keeps k62 (fun i hi e => (ho16.offT ho (by decide)) (e ▸ hi))
    replace hb35 := k62.heap hb35 (Ne.symm n31)
    replace hF := hF.keepsT k62 ho (by decide)
    replace K := K.trans' k62 (fun i hi e => .inr (.inl e))
    clear ho
    refine WL.nil ?_
    refine WX.seqN ?_
    refine WC.tail 5 (k := ?_)
    refine WQ.load (v := .string ⟨(l).toArray⟩) (fun w_ k_ => ld1 (T := 9) (i := 0) (k_.heap hs id)) (k := ?_)
    refine WQ.op (d := 22) (.int .i64 (l.length : Int)) (k := ?_)
    refine WQ.op (d := 23) (.pointer (some ⟨b2, 0, none⟩)) (k := ?_)
    refine WQ.callG (d := 24) (f := 34) (args := #[.pointer (some ⟨b2, 0, none⟩)]) (v := .int .i64 (stLen s13 : Int)) (fun w_ k_ => rLeft_x (hr17.keeps k_ id) l19) sameR' (k := ?_)
    refine WQ.opE (d := 25) (.int .i64 (IntKind.i64.wrap ((l.length : Int) - (stLen s13 : Int)))) (v := .int .i64 ((l.length : Int) - (stLen s13 : Int))) (congrArg (Value.int .i64) (IntWalk.i64_in _ (by omega))) (k := ?_)
    refine WQ.nilL (fun w63 k64 => ?_)
    replace hs := k64.heap hs id
    replace ha := k64.heap ha id
    replace ho54 := ho54.adds k64
    replace hb61 := k64.heap hb61 id
    replace hr17 := hr17.keeps k64 id
    replace ho16 := ho16.adds k64
    replace hb35 := k64.heap hb35 id
    replace hF := hF.adds k64
    replace K := K.trans (k64.any _)
    refine WL.store (v := .int .i64 ((l.length : Int) - (stLen s13 : Int))) (i := 0) (cs' := #[.int .i64 ((l.length : Int) - (stLen s13 : Int))]) ha (k := fun w65 hb66 k67 => ?_)
    replace hs := k67.heap hs n1
    replace ho54 := ho54.keeps k67 (fun i hi e => (ho54.offT ha (by decide)) (e ▸ hi))
    replace hb61 := k67.heap hb61 (Ne.symm n3)
    replace hr17 := hr17.keeps k67 (Ne.symm n8)
    replace ho16 := ho16.keeps k67 (fun i hi e => (ho16.offT ha (by decide)) (e ▸ hi))
    replace hb35 := k67.heap hb35 (Ne.symm n29)
    replace hF := hF.keepsT k67 ha (by decide)
    replace K := K.trans' k67 (fun i hi e => .inl e)
    clear ha
    refine WL.nil ?_
    refine WX.seqN ?_
    refine WC.seq ?_
    refine WC.region ?_
    refine WL.op (d := 26) (.bool is14) (k := ?_)
    refine WL.op (d := 3) (.bool is14) (k := ?_)
    refine WL.nil ?_
    refine WX.seqN ?_
    refine WC.ret ?_
    refine WX.ret (rs := [.tmp 3]) [.bool is14] (.bool is14) ⟨(by kernel_rfl), trivial⟩ (k := ?_)
    rw [h37] at g15
    have fl_ := g15.fs rfl
    obtain ⟨pt', hx_, hn_⟩ := next_t (done := done) hat g15 (x := (l.length : Int) - (stLen s13 : Int)) rfl
    have hp_ := hb66
    rw [hx_] at hp_
    exact ⟨true, pt', _, _, _, ret_bool h37, hn_, hs, hp_, hb61, ho54, hF.snoc ho16 fl_, K, ol57⟩
  · refine WC.skip ?_
    refine WX.seqN ?_
    refine WC.seq ?_
    refine WC.region ?_
    refine WL.op (d := 26) (.bool is14) (k := ?_)
    refine WL.op (d := 3) (.bool is14) (k := ?_)
    refine WL.nil ?_
    refine WX.seqN ?_
    refine WC.ret ?_
    refine WX.ret (rs := [.tmp 3]) [.bool is14] (.bool is14) ⟨(by kernel_rfl), trivial⟩ (k := ?_)
    rw [h37] at g15
    exact ⟨false, pt, A, cap, done, ret_bool h37, next_f g15, hs, ha, ho, hA, hF, K, .inl rfl⟩

set_option maxRecDepth 100000 in
set_option maxHeartbeats 4000000 in
theorem sRead_c {l : List UInt8} {w : World} (hl : l.length ≤ 1000000) : Calls Try.prog 17 #[.string ⟨l.toArray⟩] w (ReadRes l w (fun a b c => .tuple #[a, b, c])) := by
  have K : Keeps (fun _ => False) w w := Keeps.refl _ w
  refine Calls.start Try.func17 rfl (by kernel_rfl) ?_
  refine WC.seq ?_
  refine WC.region ?_
  refine WL.new (d := 1) (T := 9) #[.string ⟨(l).toArray⟩] (k := fun b1 w2 g3 hb4 k5 => ?_)
  have z6 := Nat.le_trans K.size g3
  replace K := K.trans (k5.any _)
  refine WL.op (d := 2) (.slice none 0 0) (k := ?_)
  refine WL.op (d := 3) (.int .i64 0) (k := ?_)
  refine WL.op (d := 4) (.int .i64 0) (k := ?_)
  refine WL.nil ?_
  refine WX.seqN ?_
  refine WC.scope ?_
  refine WC.seq ?_
  refine WC.region ?_
  refine WL.new (d := 5) (T := 22) #[.slice none 0 0] (k := fun b7 w8 g9 hb10 k11 => ?_)
  have z12 := Nat.le_trans K.size g9
  have n13 : b1 ≠ b7 := Nat.ne_of_lt (Nat.lt_of_lt_of_le (lt_of_heap hb4) g9)
  replace hb4 := k11.heap hb4 id
  replace K := K.trans (k11.any _)
  refine WL.nil ?_
  refine WX.seqN ?_
  refine WC.seq ?_
  refine WC.region ?_
  refine WL.new (d := 6) (T := 3) #[.int .i64 0] (k := fun b14 w15 g16 hb17 k18 => ?_)
  have z19 := Nat.le_trans K.size g16
  have n20 : b1 ≠ b14 := Nat.ne_of_lt (Nat.lt_of_lt_of_le (lt_of_heap hb4) g16)
  have n21 : b7 ≠ b14 := Nat.ne_of_lt (Nat.lt_of_lt_of_le (lt_of_heap hb10) g16)
  replace hb4 := k18.heap hb4 id
  replace hb10 := k18.heap hb10 id
  replace K := K.trans (k18.any _)
  refine WL.store (v := .int .i64 0) (i := 0) (cs' := #[.int .i64 0]) hb17 (k := fun w22 hb23 k24 => ?_)
  replace hb4 := k24.heap hb4 n20
  replace hb10 := k24.heap hb10 n21
  replace K := K.trans' k24 (fun i hi e => absurd (e ▸ hi) (Nat.not_lt.2 z19))
  clear hb17
  refine WL.nil ?_
  refine WX.seqN ?_
  refine WC.seq ?_
  refine WC.region ?_
  refine WL.op (d := 8) (.func (.func 31) #[] #[.pointer (some ⟨b1, 0, none⟩), .pointer (some ⟨b14, 0, none⟩), .pointer (some ⟨b7, 0, none⟩)]) (k := ?_)
  refine WL.op (d := 7) (.func (.func 31) #[] #[.pointer (some ⟨b1, 0, none⟩), .pointer (some ⟨b14, 0, none⟩), .pointer (some ⟨b7, 0, none⟩)]) (k := ?_)
  refine WL.nil ?_
  refine WX.seqN ?_
  refine WC.seq ?_
  refine WC.label ?_
  refine WX.seqN ?_
  refine WC.seq ?_
  refine WC.block ?_
  refine WC.loop (ι := Nat × (List GCmd) × (Option Addr) × Nat) (fun (⟨pt, done, Ao, co⟩ : Nat × (List GCmd) × (Option Addr) × Nat) => [(0, .string ⟨(l).toArray⟩), (1, .pointer (some ⟨b1, 0, none⟩)), (2, .slice none 0 0), (3, .int .i64 0), (4, .int .i64 0), (5, .pointer (some ⟨b7, 0, none⟩)), (6, .pointer (some ⟨b14, 0, none⟩)), (8, .func (.func 31) #[] #[.pointer (some ⟨b1, 0, none⟩), .pointer (some ⟨b14, 0, none⟩), .pointer (some ⟨b7, 0, none⟩)]), (7, .func (.func 31) #[] #[.pointer (some ⟨b1, 0, none⟩), .pointer (some ⟨b14, 0, none⟩), .pointer (some ⟨b7, 0, none⟩)])]) (fun (⟨pt, done, Ao, co⟩ : Nat × (List GCmd) × (Option Addr) × Nat) (w_ : World) => (Keeps (fun _ => False) w w_) ∧ (w_.heap[b1]? = some (.cells #[.string ⟨(l).toArray⟩] 9 (0, 0))) ∧ (w_.heap[b7]? = some (.cells #[.slice Ao done.length co] 22 (0, 0))) ∧ (w_.heap[b14]? = some (.cells #[.int .i64 (pt : Int)] 3 (0, 0))) ∧ (OwAt cmdC 15 32 Ao co done w_) ∧ (∀ i, blk Ao = some i → w.heap.size ≤ i) ∧ (pt ≤ l.length) ∧ (Pre l (done.map GCmd.p) (l.drop pt)) ∧ (FtsO 64 done w_)) (fun (⟨pt, done, Ao, co⟩ : Nat × (List GCmd) × (Option Addr) × Nat) => (l.length - pt)) (0, [], none, 0) ⟨(by kernel_rfl), (by kernel_rfl), (by kernel_rfl), (by kernel_rfl), (by kernel_rfl), (by kernel_rfl), (by kernel_rfl), (by kernel_rfl), (by kernel_rfl), trivial⟩ ⟨K, hb4, hb10, hb23, OwAt.nil, (by simp [blk]), (Nat.zero_le _), (Pre.nil l), FtsO.nil⟩ ?_
  rintro ⟨pt, done, Ao, co⟩ w25 ⟨K, hb26, hb27, hb28, hb29, ol30, p1, pp, hF⟩
  have dl_ := pp.len
  refine WC.seq ?_
  refine WC.seq ?_
  refine WC.region ?_
  refine WL.load (v := .int .i64 (pt : Int)) (ld1 (T := 3) (i := 0) hb28) (k := ?_)
  refine WL.load (v := .string ⟨(l).toArray⟩) (ld1 (T := 9) (i := 0) hb26) (k := ?_)
  refine WL.op (d := 11) (.int .i64 (l.length : Int)) (k := ?_)
  refine WL.op (d := 12) (.bool (decide ((pt : Int) < (l.length : Int)))) (k := ?_)
  refine WL.nil ?_
  refine WX.seqN ?_
  refine WC.cond (b := decide ((pt : Int) < (l.length : Int))) (ht := fun h31 => ?_) (hf := fun h31 => ?_)
  · have ph31 := of_decide_eq_true h31
    refine WC.skip ?_
    refine WX.seqN ?_
    refine WC.block ?_
    refine WC.seq ?_
    refine WC.region ?_
    refine WL.op (d := 13) (.func (.func 31) #[] #[.pointer (some ⟨b1, 0, none⟩), .pointer (some ⟨b14, 0, none⟩), .pointer (some ⟨b7, 0, none⟩)]) (k := ?_)
    refine WL.callG (d := 14) (f := 31) (args := #[.pointer (some ⟨b1, 0, none⟩), .pointer (some ⟨b14, 0, none⟩), .pointer (some ⟨b7, 0, none⟩)]) (sRead1_c hb26 hb28 hb27 hb29 hF n20 n13 (Ne.symm n21) hl p1 (by omega)) (k := fun e_ w32 h_ => ?_)
    obtain ⟨is33, pt34, A35, c36, dn37, rfl, nx38, hb39, hb40, hb41, ho42, hF43, k44, n45⟩ := h_
    refine ⟨_, rfl, ?_⟩
    have ol46 := olink_step ol30 K n45
    replace K := K.trans' k44 (fun i hi e => e.elim (fun e => absurd (e ▸ hi) (Nat.not_lt.2 z19)) (fun e => e.elim (fun e => absurd (e ▸ hi) (Nat.not_lt.2 z12)) (fun e => absurd hi (Nat.not_lt.2 (ol30 i e)))))
    clear hb26 hb28 hb27 hb29 hF
    refine WL.op (d := 15) (.bool (!(is33))) (k := ?_)
    refine WL.nil ?_
    refine WX.seqN ?_
    refine WC.cond (b := !(is33)) (ht := fun h47 => ?_) (hf := fun h47 => ?_)
    · have h48 : (is33) = false := Bool.not_inj (y := false) h47
      refine WC.exit ?_
      refine WX.blockO (by kernel_rfl) ?_
      refine WX.seqE ?_
      refine WX.blockE ?_
      refine WX.seqN ?_
      refine WC.seq ?_
      refine WC.seq ?_
      refine WC.region ?_
      refine WL.load (v := .int .i64 (pt34 : Int)) (ld1 (T := 3) (i := 0) hb40) (k := ?_)
      refine WL.load (v := .string ⟨(l).toArray⟩) (ld1 (T := 9) (i := 0) hb39) (k := ?_)
      refine WL.op (d := 18) (.int .i64 (l.length : Int)) (k := ?_)
      refine WL.op (d := 19) (.bool (decide ((pt34 : Int) < (l.length : Int)))) (k := ?_)
      refine WL.nil ?_
      refine WX.seqN ?_
      refine WC.cond (b := decide ((pt34 : Int) < (l.length : Int))) (ht := fun h49 => ?_) (hf := fun h49 => ?_)
      · have ph49 := of_decide_eq_true h49
        refine WC.seq ?_
        refine WC.quiet (k := ?_)
        refine WQ.load (v := .slice A35 dn37.length c36) (fun w_ k_ => ld1 (T := 22) (i := 0) (k_.heap hb41 id)) (k := ?_)
        refine WQ.load (v := .int .i64 (pt34 : Int)) (fun w_ k_ => ld1 (T := 3) (i := 0) (k_.heap hb40 id)) (k := ?_)
        refine WQ.op (d := 2) (.slice A35 dn37.length c36) (k := ?_)
        refine WQ.op (d := 3) (.int .i64 (pt34 : Int)) (k := ?_)
        refine WQ.op (d := 4) (.int .i64 10) (k := ?_)
        refine WQ.nilX (fun w50 k51 => ?_)
        replace hb39 := k51.heap hb39 id
        replace hb41 := k51.heap hb41 id
        replace hb40 := k51.heap hb40 id
        replace ho42 := ho42.adds k51
        replace hF43 := hF43.adds k51
        replace K := K.trans (k51.any _)
        refine WX.seqN ?_
        refine WC.ret ?_
        refine WX.seqR ?_
        refine WX.scopeR ?_
        refine WX.ret (rs := [.tmp 2, .tmp 3, .tmp 4]) [.slice A35 dn37.length c36, .int .i64 (pt34 : Int), .int .i64 10] (.tuple #[.slice A35 dn37.length c36, .int .i64 (pt34 : Int), .int .i64 10]) ⟨(by kernel_rfl), (by kernel_rfl), (by kernel_rfl), trivial⟩ (k := ?_)
        obtain ⟨e1_, e2_, hno_⟩ := nx38.2 h48
        rw [← e1_, ← e2_] at pp
        rw [← e2_] at hno_
        exact ReadRes.at1 (pt := pt34) (by omega) rfl ho42 hF43 (pp.done hno_) K ol46
      · have ph49 := of_decide_eq_false h49
        refine WC.skip ?_
        refine WX.seqN ?_
        refine WC.seq ?_
        refine WC.quiet (k := ?_)
        refine WQ.load (v := .slice A35 dn37.length c36) (fun w_ k_ => ld1 (T := 22) (i := 0) (k_.heap hb41 id)) (k := ?_)
        refine WQ.load (v := .int .i64 (pt34 : Int)) (fun w_ k_ => ld1 (T := 3) (i := 0) (k_.heap hb40 id)) (k := ?_)
        refine WQ.op (d := 2) (.slice A35 dn37.length c36) (k := ?_)
        refine WQ.op (d := 3) (.int .i64 (pt34 : Int)) (k := ?_)
        refine WQ.op (d := 4) (.int .i64 0) (k := ?_)
        refine WQ.nilX (fun w52 k53 => ?_)
        replace hb39 := k53.heap hb39 id
        replace hb41 := k53.heap hb41 id
        replace hb40 := k53.heap hb40 id
        replace ho42 := ho42.adds k53
        replace hF43 := hF43.adds k53
        replace K := K.trans (k53.any _)
        refine WX.seqN ?_
        refine WC.ret ?_
        refine WX.scopeR ?_
        refine WX.ret (rs := [.tmp 2, .tmp 3, .tmp 4]) [.slice A35 dn37.length c36, .int .i64 (pt34 : Int), .int .i64 0] (.tuple #[.slice A35 dn37.length c36, .int .i64 (pt34 : Int), .int .i64 0]) ⟨(by kernel_rfl), (by kernel_rfl), (by kernel_rfl), trivial⟩ (k := ?_)
        obtain ⟨e1_, e2_, hno_⟩ := nx38.2 h48
        exfalso; omega
    · have h54 : (is33) = true := Bool.not_inj (y := true) h47
      refine WC.skip ?_
      refine WX.blockN ?_
      obtain ⟨hle_, hlt_, c_, ec_, hc_, hd_⟩ := nx38.1 h54
      refine WX.round (pt34, dn37, A35, c36) (by show (l.length - pt34) < (l.length - pt); omega) ⟨(by kernel_rfl), (by kernel_rfl), (by kernel_rfl), (by kernel_rfl), (by kernel_rfl), (by kernel_rfl), (by kernel_rfl), (by kernel_rfl), (by kernel_rfl), trivial⟩ ⟨K, hb39, hb41, hb40, ho42, ol46, hle_, (pp.snocM hc_ hd_ ec_), hF43⟩
  · have ph31 := of_decide_eq_false h31
    refine WC.exit ?_
    refine WX.seqE ?_
    refine WX.seqE ?_
    refine WX.blockE ?_
    refine WX.seqN ?_
    refine WC.seq ?_
    refine WC.seq ?_
    refine WC.region ?_
    refine WL.load (v := .int .i64 (pt : Int)) (ld1 (T := 3) (i := 0) hb28) (k := ?_)
    refine WL.load (v := .string ⟨(l).toArray⟩) (ld1 (T := 9) (i := 0) hb26) (k := ?_)
    refine WL.op (d := 18) (.int .i64 (l.length : Int)) (k := ?_)
    refine WL.op (d := 19) (.bool (decide ((pt : Int) < (l.length : Int)))) (k := ?_)
    refine WL.nil ?_
    refine WX.seqN ?_
    refine WC.rw (t := 19) (v := .bool false) (congrArg Value.bool h31) (k := ?_)
    refine WC.condF (k := ?_)
    refine WC.skip ?_
    refine WX.seqN ?_
    refine WC.seq ?_
    refine WC.quiet (k := ?_)
    refine WQ.load (v := .slice Ao done.length co) (fun w_ k_ => ld1 (T := 22) (i := 0) (k_.heap hb27 id)) (k := ?_)
    refine WQ.load (v := .int .i64 (pt : Int)) (fun w_ k_ => ld1 (T := 3) (i := 0) (k_.heap hb28 id)) (k := ?_)
    refine WQ.op (d := 2) (.slice Ao done.length co) (k := ?_)
    refine WQ.op (d := 3) (.int .i64 (pt : Int)) (k := ?_)
    refine WQ.op (d := 4) (.int .i64 0) (k := ?_)
    refine WQ.nilX (fun w55 k56 => ?_)
    replace hb26 := k56.heap hb26 id
    replace hb27 := k56.heap hb27 id
    replace hb28 := k56.heap hb28 id
    replace hb29 := hb29.adds k56
    replace hF := hF.adds k56
    replace K := K.trans (k56.any _)
    refine WX.seqN ?_
    refine WC.ret ?_
    refine WX.scopeR ?_
    refine WX.ret (rs := [.tmp 2, .tmp 3, .tmp 4]) [.slice Ao done.length co, .int .i64 (pt : Int), .int .i64 0] (.tuple #[.slice Ao done.length co, .int .i64 (pt : Int), .int .i64 0]) ⟨(by kernel_rfl), (by kernel_rfl), (by kernel_rfl), trivial⟩ (k := ?_)
    exact ReadRes.at0 (pt := pt) (by omega) (by omega) rfl hb29 hF (pp.done (none_end (by omega))) K ol30

set_option maxRecDepth 100000 in
set_option maxHeartbeats 4000000 in
theorem u23Read_c {l : List UInt8} {w : World} (hl : l.length ≤ 1000000) : Calls Try.prog 18 #[.string ⟨l.toArray⟩] w (ReadRes l w (fun a b c => .agg #[a, b, c])) := by
  have K : Keeps (fun _ => False) w w := Keeps.refl _ w
  refine Calls.start Try.func18 rfl (by kernel_rfl) ?_
  refine WC.seq ?_
  refine WC.region ?_
  refine WL.new (d := 2) (T := 43) #[.slice none 0 0, .int .i64 0, .int .i64 0] (k := fun b1 w2 g3 hb4 k5 => ?_)
  have z6 := Nat.le_trans K.size g3
  replace K := K.trans (k5.any _)
  refine WL.nil ?_
  refine WX.seqN ?_
  refine WC.seq ?_
  refine WC.region ?_
  refine WL.op (d := 6) (.agg #[.slice none 0 0, .int .i64 0, .int .i64 0]) (k := ?_)
  refine WL.new (d := 3) (T := 43) #[.slice none 0 0, .int .i64 0, .int .i64 0] (k := fun b7 w8 g9 hb10 k11 => ?_)
  have z12 := Nat.le_trans K.size g9
  have n13 : b1 ≠ b7 := Nat.ne_of_lt (Nat.lt_of_lt_of_le (lt_of_heap hb4) g9)
  replace hb4 := k11.heap hb4 id
  replace K := K.trans (k11.any _)
  refine WL.store (v := .agg #[.slice none 0 0, .int .i64 0, .int .i64 0]) (i := 0) (cs' := #[.slice none 0 0, .int .i64 0, .int .i64 0]) hb10 (k := fun w14 hb15 k16 => ?_)
  replace hb4 := k16.heap hb4 n13
  replace K := K.trans' k16 (fun i hi e => absurd (e ▸ hi) (Nat.not_lt.2 z12))
  clear hb10
  refine WL.nil ?_
  refine WX.seqN ?_
  refine WC.seq ?_
  refine WC.block ?_
  refine WC.loop (ι := Nat × (List GCmd) × (Option Addr) × Nat) (fun (⟨pt, done, Ao, co⟩ : Nat × (List GCmd) × (Option Addr) × Nat) => [(0, .string ⟨(l).toArray⟩), (2, .pointer (some ⟨b1, 0, none⟩)), (6, .agg #[.slice none 0 0, .int .i64 0, .int .i64 0]), (3, .pointer (some ⟨b7, 0, none⟩))]) (fun (⟨pt, done, Ao, co⟩ : Nat × (List GCmd) × (Option Addr) × Nat) (w_ : World) => (Keeps (fun _ => False) w w_) ∧ (w_.heap[b1]? = some (.cells #[.slice none 0 0, .int .i64 0, .int .i64 0] 43 (0, 0))) ∧ (w_.heap[b7]? = some (.cells #[.slice Ao done.length co, .int .i64 (pt : Int), .int .i64 0] 43 (0, 0))) ∧ (OwAt cmdC 15 32 Ao co done w_) ∧ (∀ i, blk Ao = some i → w.heap.size ≤ i) ∧ (pt ≤ l.length) ∧ (Pre l (done.map GCmd.p) (l.drop pt)) ∧ (FtsO 64 done w_)) (fun (⟨pt, done, Ao, co⟩ : Nat × (List GCmd) × (Option Addr) × Nat) => (l.length - pt)) (0, [], none, 0) ⟨(by kernel_rfl), (by kernel_rfl), (by kernel_rfl), (by kernel_rfl), trivial⟩ ⟨K, hb4, hb15, OwAt.nil, (by simp [blk]), (Nat.zero_le _), (Pre.nil l), FtsO.nil⟩ ?_
  rintro ⟨pt, done, Ao, co⟩ w17 ⟨K, hb18, hb19, hb20, ol21, p1, pp, hF⟩
  have dl_ := pp.len
  refine WC.seq ?_
  refine WC.seq ?_
  refine WC.region ?_
  refine WL.op (d := 7) (.pointer (some ⟨b7, 1, none⟩)) (k := ?_)
  refine WL.load (v := .int .i64 (pt : Int)) (ld1 (T := 3) (i := 1) hb19) (k := ?_)
  refine WL.op (d := 9) (.string ⟨(l).toArray⟩) (k := ?_)
  refine WL.op (d := 10) (.int .i64 (l.length : Int)) (k := ?_)
  refine WL.op (d := 11) (.bool (decide ((pt : Int) < (l.length : Int)))) (k := ?_)
  refine WL.nil ?_
  refine WX.seqN ?_
  refine WC.cond (b := decide ((pt : Int) < (l.length : Int))) (ht := fun h22 => ?_) (hf := fun h22 => ?_)
  · have ph22 := of_decide_eq_true h22
    refine WC.skip ?_
    refine WX.seqN ?_
    refine WC.block ?_
    refine WC.seq ?_
    refine WC.region ?_
    refine WL.op (d := 12) (.string ⟨(l).toArray⟩) (k := ?_)
    refine WL.op (d := 13) (.pointer (some ⟨b7, 1, none⟩)) (k := ?_)
    refine WL.load (v := .int .i64 (pt : Int)) (ld1 (T := 3) (i := 1) hb19) (k := ?_)
    refine WL.cut (d := 15) (vx := .string ⟨(l).toArray⟩) (lo' := (some (.int .i64 (pt : Int)))) (hi' := none) (mx' := none) (v := .string ⟨(List.drop pt l).toArray⟩) ((by have h_ := run_cut (P := Try.prog) (w := w17) (lo := (some (.int .i64 (pt : Int)))) (hi := none) (T := 9) (a := pt) (b := l.length) (l := l) (by kernel_rfl) (.inr ⟨_, _, rfl, by omega⟩) (.inl ⟨rfl, rfl⟩) (by first | omega | (simp; omega)) (by first | omega | (simp; omega)); rw [List.take_length] at h_; exact h_)) (k := ?_)
    refine WL.op (d := 16) (.agg #[.string ⟨(List.drop pt l).toArray⟩, .bool false]) (k := ?_)
    refine WL.new (d := 17) (T := 75) #[.string ⟨(List.drop pt l).toArray⟩, .bool false] (k := fun b23 w24 g25 hb26 k27 => ?_)
    have z28 := Nat.le_trans K.size g25
    have n29 : b1 ≠ b23 := Nat.ne_of_lt (Nat.lt_of_lt_of_le (lt_of_heap hb18) g25)
    have n30 : b7 ≠ b23 := Nat.ne_of_lt (Nat.lt_of_lt_of_le (lt_of_heap hb19) g25)
    have n31 := OwAt.off_new hb20 g25
    replace hb18 := k27.heap hb18 id
    replace hb19 := k27.heap hb19 id
    replace hb20 := hb20.adds k27
    replace hF := hF.adds k27
    replace K := K.trans (k27.any _)
    have hr32 : QrAt b23 (some (List.drop pt l)) w24 := QrAt.new hb26
    clear hb26
    refine WL.op (d := 4) (.pointer (some ⟨b23, 0, none⟩)) (k := ?_)
    refine WL.nil ?_
    refine WX.seqN ?_
    refine WC.seq ?_
    refine WC.region ?_
    refine WL.op (d := 18) (.pointer (some ⟨b23, 0, none⟩)) (k := ?_)
    refine WL.callG (d := 19) (f := 35) (args := #[.pointer (some ⟨b23, 0, none⟩)]) (u23read_c hr32 (by show List.length (List.drop pt l) ≤ _; first | omega | (simp; omega))) (k := fun e_ w33 h_ => ?_)
    obtain ⟨c34, s35, rfl, g36, ho37, hr38, k39, l40, ol41⟩ := h_
    refine ⟨_, rfl, ?_⟩
    have ol42 := fun i h => Nat.le_trans K.size (ol41 i h)
    replace hb18 := k39.heap hb18 n29
    replace hb19 := k39.heap hb19 n30
    replace hb20 := hb20.keeps k39 (fun i hi e => (n31) (e ▸ hi))
    replace hF := hF.keepsQ k39 hr32
    replace K := K.trans' k39 (fun i hi e => absurd (e ▸ hi) (Nat.not_lt.2 z28))
    clear hr32 ol41
    refine WL.new (d := 5) (T := 32) #[.int .i64 0, .int .i64 0, .int .i64 0, .int .i64 0, .int .i64 0, .int .i64 0, .int .i64 0, .bool false, .int .i64 0, .int .i64 0, .int .i64 0, .int .i64 0, .int .i64 0, .int .i64 0, .slice none 0 0] (k := fun b43 w44 g45 hb46 k47 => ?_)
    have z48 := Nat.le_trans K.size g45
    have n49 : b1 ≠ b43 := Nat.ne_of_lt (Nat.lt_of_lt_of_le (lt_of_heap hb18) g45)
    have n50 : b7 ≠ b43 := Nat.ne_of_lt (Nat.lt_of_lt_of_le (lt_of_heap hb19) g45)
    have n51 := OwAt.off_new hb20 g45
    have n52 : b23 ≠ b43 := Nat.ne_of_lt (Nat.lt_of_lt_of_le hr38.lt g45)
    have n53 := OwAt.off_new ho37 g45
    replace hb18 := k47.heap hb18 id
    replace hb19 := k47.heap hb19 id
    replace hb20 := hb20.adds k47
    replace hr38 := hr38.keeps k47 id
    replace ho37 := ho37.adds k47
    replace hF := hF.adds k47
    replace K := K.trans (k47.any _)
    refine WL.store (v := GCmd.val c34) (i := 0) (cs' := (Value.cells (GCmd.val c34))) hb46 (k := fun w54 hb55 k56 => ?_)
    replace hb18 := k56.heap hb18 n49
    replace hb19 := k56.heap hb19 n50
    replace hb20 := hb20.keeps k56 (fun i hi e => (n51) (e ▸ hi))
    replace hr38 := hr38.keeps k56 n52
    replace ho37 := ho37.keeps k56 (fun i hi e => (n53) (e ▸ hi))
    replace hF := hF.keepsT k56 hb46 (by decide)
    replace K := K.trans' k56 (fun i hi e => absurd (e ▸ hi) (Nat.not_lt.2 z48))
    clear hb46
    refine WL.nil ?_
    refine WX.seqN ?_
    refine WC.seq ?_
    refine WC.seq ?_
    refine WC.region ?_
    refine WL.op (d := 20) (.pointer (some ⟨b43, 0, none⟩)) (k := ?_)
    refine WL.load (v := .int .i64 c34.p.kind) (ld1 (T := 3) (i := 0) hb55) (k := ?_)
    refine WL.op (d := 22) (.bool (c34.p.kind == 0)) (k := ?_)
    refine WL.nil ?_
    refine WX.seqN ?_
    refine WC.cond (b := c34.p.kind == 0) (ht := fun h57 => ?_) (hf := fun h57 => ?_)
    · have ph57 := eq_of_beq h57
      refine WC.seq ?_
      refine WC.region ?_
      refine WL.op (d := 23) (.pointer (some ⟨b7, 2, none⟩)) (k := ?_)
      refine WL.store (v := .int .i64 10) (i := 2) (cs' := #[.slice Ao done.length co, .int .i64 (pt : Int), .int .i64 10]) hb19 (k := fun w58 hb59 k60 => ?_)
      replace hb18 := k60.heap hb18 n13
      replace hb20 := hb20.keeps k60 (fun i hi e => (hb20.offT hb19 (by decide)) (e ▸ hi))
      replace hr38 := hr38.keeps k60 (Ne.symm n30)
      replace ho37 := ho37.keeps k60 (fun i hi e => (ho37.offT hb19 (by decide)) (e ▸ hi))
      replace hb55 := k60.heap hb55 (Ne.symm n50)
      replace hF := hF.keepsT k60 hb19 (by decide)
      replace K := K.trans' k60 (fun i hi e => absurd (e ▸ hi) (Nat.not_lt.2 z12))
      clear hb19
      refine WL.nil ?_
      refine WX.seqN ?_
      refine WC.seq ?_
      refine WC.region ?_
      refine WL.load (v := .agg #[.slice Ao done.length co, .int .i64 (pt : Int), .int .i64 10]) (ldN (T := 43) (i := 0) (m := 3) (l := [.slice Ao done.length co, .int .i64 (pt : Int), .int .i64 10]) hb59) (k := ?_)
      refine WL.store (v := .agg #[.slice Ao done.length co, .int .i64 (pt : Int), .int .i64 10]) (i := 0) (cs' := #[.slice Ao done.length co, .int .i64 (pt : Int), .int .i64 10]) hb18 (k := fun w61 hb62 k63 => ?_)
      replace hb59 := k63.heap hb59 (Ne.symm n13)
      replace hb20 := hb20.keeps k63 (fun i hi e => (hb20.offT hb18 (by decide)) (e ▸ hi))
      replace hr38 := hr38.keeps k63 (Ne.symm n29)
      replace ho37 := ho37.keeps k63 (fun i hi e => (ho37.offT hb18 (by decide)) (e ▸ hi))
      replace hb55 := k63.heap hb55 (Ne.symm n49)
      replace hF := hF.keepsT k63 hb18 (by decide)
      replace K := K.trans' k63 (fun i hi e => absurd (e ▸ hi) (Nat.not_lt.2 z6))
      clear hb18
      refine WL.nil ?_
      refine WX.seqN ?_
      refine WC.ret ?_
      refine WX.seqR ?_
      refine WX.blockR ?_
      refine WX.seqR ?_
      refine WX.blockR ?_
      refine WX.seqR ?_
      refine WX.ret (rs := [.cell 2 43]) [.agg #[.slice Ao done.length co, .int .i64 (pt : Int), .int .i64 10]] (.agg #[.slice Ao done.length co, .int .i64 (pt : Int), .int .i64 10]) ⟨⟨_, (by kernel_rfl), ldN (T := 43) (i := 0) (m := 3) (l := [.slice Ao done.length co, .int .i64 (pt : Int), .int .i64 10]) hb62⟩, trivial⟩ (k := ?_)
      exact ReadRes.at1 (pt := pt) (by omega) rfl hb20 hF (pp.done (fun d t hd he => g36.2 d t hd he ph57)) K ol21
    · have ph57 := ne_of_beq_false h57
      refine WC.skip ?_
      refine WX.seqN ?_
      refine WC.seq ?_
      refine WC.region ?_
      refine WL.op (d := 25) (.pointer (some ⟨b7, 0, none⟩)) (k := ?_)
      refine WL.load (v := .slice Ao done.length co) (ld1 (T := 22) (i := 0) hb19) (k := ?_)
      refine WL.load (v := GCmd.val c34) (ldN (T := 32) (i := 0) (m := 15) (l := (Value.cells (GCmd.val c34)).toList) hb55) (k := ?_)
      refine WL.newF (d := 28) (T := 32) (Value.cells (GCmd.val c34)) (fun b => .slice (some ⟨b, 0, none⟩) 1 1) (k := fun b64 w65 g66 hb67 k68 => ?_)
      have z69 := Nat.le_trans K.size g66
      have n70 : b1 ≠ b64 := Nat.ne_of_lt (Nat.lt_of_lt_of_le (lt_of_heap hb18) g66)
      have n71 : b7 ≠ b64 := Nat.ne_of_lt (Nat.lt_of_lt_of_le (lt_of_heap hb19) g66)
      have n72 := OwAt.off_new hb20 g66
      have n73 : b23 ≠ b64 := Nat.ne_of_lt (Nat.lt_of_lt_of_le hr38.lt g66)
      have n74 := OwAt.off_new ho37 g66
      have n75 : b43 ≠ b64 := Nat.ne_of_lt (Nat.lt_of_lt_of_le (lt_of_heap hb55) g66)
      replace hb18 := k68.heap hb18 id
      replace hb19 := k68.heap hb19 id
      replace hb20 := hb20.adds k68
      replace hr38 := hr38.keeps k68 id
      replace ho37 := ho37.adds k68
      replace hb55 := k68.heap hb55 id
      replace hF := hF.adds k68
      replace K := K.trans (k68.any _)
      refine WL.append (d := 29) (T := 22) (cl := cmdC) (xs := done) (ys := [c34]) (c := 1) ekCmd hb20 (SlAt.of_lit (ys := [c34]) ekCmd hb67 (by kernel_rfl)) (by simp; omega) (k := fun A76 c77 w78 ho79 k80 n81 => ?_)
      have ol82 := olink_step ol21 K n81
      have n83 := off_step n81 n31 hr38.lt
      have n84 := off_step n81 n51 (lt_of_heap hb55)
      replace hb18 := k80.heap hb18 (hb20.offT hb18 (by decide))
      replace hb19 := k80.heap hb19 (hb20.offT hb19 (by decide))
      replace hr38 := hr38.keeps k80 n31
      replace ho37 := ho37.keeps k80 (OwAt.offOw ho37 hb20 (by decide))
      replace hb55 := k80.heap hb55 n51
      replace hF := hF.keepsOw k80 hb20 (by decide)
      replace K := K.trans' k80 (fun i hi e => absurd hi (Nat.not_lt.2 (ol21 i e)))
      clear hb20
      refine WL.op (d := 30) (.pointer (some ⟨b7, 0, none⟩)) (k := ?_)
      refine WL.store (v := .slice A76 ((done ++ [c34]).length) c77) (i := 0) (cs' := #[.slice A76 ((done ++ [c34]).length) c77, .int .i64 (pt : Int), .int .i64 0]) hb19 (k := fun w85 hb86 k87 => ?_)
      replace hb18 := k87.heap hb18 n13
      replace ho79 := ho79.keeps k87 (fun i hi e => (ho79.offT hb19 (by decide)) (e ▸ hi))
      replace hr38 := hr38.keeps k87 (Ne.symm n30)
      replace ho37 := ho37.keeps k87 (fun i hi e => (ho37.offT hb19 (by decide)) (e ▸ hi))
      replace hb55 := k87.heap hb55 (Ne.symm n50)
      replace hF := hF.keepsT k87 hb19 (by decide)
      replace K := K.trans' k87 (fun i hi e => absurd (e ▸ hi) (Nat.not_lt.2 z12))
      clear hb19
      refine WL.nil ?_
      refine WX.seqN ?_
      obtain ⟨t88, ht_, hok_, he_⟩ := g36.1 ph57
      subst ht_
      have tl_ : t88.length ≤ l.length := by have e_ := congrArg List.length he_; simp only [List.length_append, List.length_drop] at e_; omega
      have hb89 : w85.heap[b23]? = some (.cells #[.string ⟨t88.toArray⟩, .bool false] 75 (0, 0)) := hr38
      refine WC.region ?_
      refine WL.op (d := 31) (.string ⟨(l).toArray⟩) (k := ?_)
      refine WL.op (d := 32) (.int .i64 (l.length : Int)) (k := ?_)
      refine WL.op (d := 33) (.pointer (some ⟨b23, 0, none⟩)) (k := ?_)
      refine WL.op (d := 34) (.pointer (some ⟨b23, 0, none⟩)) (k := ?_)
      refine WL.op (d := 35) (.pointer (some ⟨b23, 0, none⟩)) (k := ?_)
      refine WL.load (v := .string ⟨(t88).toArray⟩) (ld1 (T := 9) (i := 0) hb89) (k := ?_)
      refine WL.op (d := 37) (.int .i64 (t88.length : Int)) (k := ?_)
      refine WL.opE (d := 38) (.int .i64 (IntKind.i64.wrap ((l.length : Int) - (t88.length : Int)))) (v := .int .i64 ((l.length : Int) - (t88.length : Int))) (congrArg (Value.int .i64) (IntWalk.i64_in _ (by omega))) (k := ?_)
      refine WL.op (d := 39) (.pointer (some ⟨b7, 1, none⟩)) (k := ?_)
      refine WL.store (v := .int .i64 ((l.length : Int) - (t88.length : Int))) (i := 1) (cs' := #[.slice A76 ((done ++ [c34]).length) c77, .int .i64 ((l.length : Int) - (t88.length : Int)), .int .i64 0]) hb86 (k := fun w90 hb91 k92 => ?_)
      replace hb18 := k92.heap hb18 n13
      replace ho79 := ho79.keeps k92 (fun i hi e => (ho79.offT hb86 (by decide)) (e ▸ hi))
      replace hb89 := k92.heap hb89 (Ne.symm n30)
      replace ho37 := ho37.keeps k92 (fun i hi e => (ho37.offT hb86 (by decide)) (e ▸ hi))
      replace hb55 := k92.heap hb55 (Ne.symm n50)
      replace hF := hF.keepsT k92 hb86 (by decide)
      replace K := K.trans' k92 (fun i hi e => absurd (e ▸ hi) (Nat.not_lt.2 z12))
      clear hb86
      refine WL.nil ?_
      refine WX.blockN ?_
      obtain ⟨pt', hx_, hn_⟩ := next_t (done := done) p1 (x := (l.length : Int) - (t88.length : Int)) (Got.yes g36 ph57) rfl
      have fl_ := (Got.yes g36 ph57).fs rfl
      rw [hx_] at hb91
      obtain ⟨hle_, hlt_, c_, ec_, hc_, hd_⟩ := hn_.1 rfl
      refine WX.round (pt', done ++ [c34], A76, c77) (by show (l.length - pt') < (l.length - pt); omega) ⟨(by kernel_rfl), (by kernel_rfl), (by kernel_rfl), (by kernel_rfl), trivial⟩ ⟨K, hb18, hb91, ho79, ol82, hle_, (pp.snocM hc_ hd_ ec_), (FtsO.snoc hF ho37 fl_)⟩
  · have ph22 := of_decide_eq_false h22
    refine WC.exit ?_
    refine WX.seqE ?_
    refine WX.seqE ?_
    refine WX.blockE ?_
    refine WX.seqN ?_
    refine WC.seq ?_
    refine WC.region ?_
    refine WL.load (v := .agg #[.slice Ao done.length co, .int .i64 (pt : Int), .int .i64 0]) (ldN (T := 43) (i := 0) (m := 3) (l := [.slice Ao done.length co, .int .i64 (pt : Int), .int .i64 0]) hb19) (k := ?_)
    refine WL.store (v := .agg #[.slice Ao done.length co, .int .i64 (pt : Int), .int .i64 0]) (i := 0) (cs' := #[.slice Ao done.length co, .int .i64 (pt : Int), .int .i64 0]) hb18 (k := fun w93 hb94 k95 => ?_)
    replace hb19 := k95.heap hb19 (Ne.symm n13)
    replace hb20 := hb20.keeps k95 (fun i hi e => (hb20.offT hb18 (by decide)) (e ▸ hi))
    replace hF := hF.keepsT k95 hb18 (by decide)
    replace K := K.trans' k95 (fun i hi e => absurd (e ▸ hi) (Nat.not_lt.2 z6))
    clear hb18
    refine WL.nil ?_
    refine WX.seqN ?_
    refine WC.ret ?_
    refine WX.ret (rs := [.cell 2 43]) [.agg #[.slice Ao done.length co, .int .i64 (pt : Int), .int .i64 0]] (.agg #[.slice Ao done.length co, .int .i64 (pt : Int), .int .i64 0]) ⟨⟨_, (by kernel_rfl), ldN (T := 43) (i := 0) (m := 3) (l := [.slice Ao done.length co, .int .i64 (pt : Int), .int .i64 0]) hb94⟩, trivial⟩ (k := ?_)
    exact ReadRes.at0 (pt := pt) (by omega) (by omega) rfl hb20 hF (pp.done (none_end (by omega))) K ol21

set_option maxRecDepth 100000 in
set_option maxHeartbeats 4000000 in
theorem u23SameAll_c {A : Option Addr} {cp : Nat} {xs : List GCmd} {w : World} (hA : SlAt cmdC 15 32 A xs w) (hF : Fts 1000000000 xs w) (hn : xs.length ≤ 1000000000) {B : Option Addr} {cq : Nat} {ys : List GCmd} (hB : SlAt cmdC 15 32 B ys w) (hG : Fts 1000000000 ys w) (hm : ys.length ≤ 1000000000) : Calls Try.prog 19 #[.slice A xs.length cp, .slice B ys.length cq] w fun e w' => e = .returned (.bool (decide (xs.map GCmd.p = ys.map GCmd.p))) ∧ Adds w w' := by
  have K : Keeps (fun _ => False) w w := Keeps.refl _ w
  refine Calls.start Try.func19 rfl (by kernel_rfl) ?_
  refine WC.seq ?_
  refine WC.region ?_
  refine WL.op (d := 4) (.bool false) (k := ?_)
  refine WL.nil ?_
  refine WX.seqN ?_
  refine WC.seq ?_
  refine WC.seq ?_
  refine WC.region ?_
  refine WL.op (d := 7) (.slice A xs.length cp) (k := ?_)
  refine WL.op (d := 8) (.int .i64 (xs.length : Int)) (k := ?_)
  refine WL.op (d := 9) (.slice B ys.length cq) (k := ?_)
  refine WL.op (d := 10) (.int .i64 (ys.length : Int)) (k := ?_)
  refine WL.op (d := 11) (.bool ((xs.length : Int) != (ys.length : Int))) (k := ?_)
  refine WL.nil ?_
  refine WX.seqN ?_
  refine WC.cond (b := (xs.length : Int) != (ys.length : Int)) (ht := fun h1 => ?_) (hf := fun h1 => ?_)
  · have ph1 := bne_iff_ne.1 h1
    refine WC.seq ?_
    refine WC.region ?_
    refine WL.op (d := 4) (.bool false) (k := ?_)
    refine WL.nil ?_
    refine WX.seqN ?_
    refine WC.ret ?_
    refine WX.seqR ?_
    refine WX.ret (rs := [.tmp 4]) [.bool false] (.bool false) ⟨(by kernel_rfl), trivial⟩ (k := ?_)
    exact ⟨ret_bool (mapU_len (by omega)), K⟩
  · have ph1 := of_bne_false h1
    refine WC.skip ?_
    refine WX.seqN ?_
    refine WC.seq ?_
    refine WC.seq ?_
    refine WC.region ?_
    refine WL.op (d := 5) (.int .i64 0) (k := ?_)
    refine WL.nil ?_
    refine WX.seqN ?_
    refine WC.block ?_
    refine WC.loop (ι := Int) (fun (i : Int) => [(0, .slice A xs.length cp), (1, .slice B ys.length cq), (7, .slice A xs.length cp), (8, .int .i64 (xs.length : Int)), (9, .slice B ys.length cq), (10, .int .i64 (ys.length : Int)), (11, .bool ((xs.length : Int) != (ys.length : Int))), (5, .int .i64 i)]) (fun (i : Int) (w_ : World) => (Keeps (fun _ => False) w w_) ∧ (0 ≤ i) ∧ (i ≤ xs.length) ∧ (eqU (xs.map GCmd.p) (ys.map GCmd.p) i)) (fun (i : Int) => (xs.length - i).toNat) 0 ⟨(by kernel_rfl), (by kernel_rfl), (by kernel_rfl), (by kernel_rfl), (by kernel_rfl), (by kernel_rfl), (by kernel_rfl), (by kernel_rfl), trivial⟩ ⟨K, Int.le_refl 0, (by omega), eqU_zero _ _⟩ ?_
    rintro i w2 ⟨K, i0, i1, iu⟩
    refine WC.seq ?_
    refine WC.seq ?_
    refine WC.region ?_
    refine WL.op (d := 12) (.int .i64 i) (k := ?_)
    refine WL.op (d := 13) (.slice A xs.length cp) (k := ?_)
    refine WL.op (d := 14) (.int .i64 (xs.length : Int)) (k := ?_)
    refine WL.op (d := 15) (.bool (decide (i < (xs.length : Int)))) (k := ?_)
    refine WL.nil ?_
    refine WX.seqN ?_
    refine WC.cond (b := decide (i < (xs.length : Int))) (ht := fun h3 => ?_) (hf := fun h3 => ?_)
    · have ph3 := of_decide_eq_true h3
      refine WC.skip ?_
      refine WX.seqN ?_
      refine WC.seq ?_
      refine WC.block ?_
      refine WC.seq ?_
      refine WC.quiet (k := ?_)
      refine WQ.op (d := 18) (.slice A xs.length cp) (k := ?_)
      refine WQ.op (d := 19) (.int .i64 i) (k := ?_)
      obtain ⟨b4, o5, r6, hr7, hA8, he9⟩ := SlAt.at hA (i := i) (by omega) (by omega)
      refine WQ.rw (t := 18) (v := .slice (some ⟨b4, o5, none⟩) xs.length cp) (congrArg (fun a => Value.slice a xs.length cp) hA8) (k := ?_)
      obtain ⟨hs10, hc11, hl12⟩ := fts_mem hF hr7
      refine WQ.idx (T := 22) (E := 32) (m := 15) (b := b4) (o := o5) (len := xs.length) (cap := cp) (i := i) (kk := .i64) (d := 20) (by omega) (by omega) (k := ?_)
      refine WQ.rw (t := 18) (v := .slice A xs.length cp) (congrArg (fun a => Value.slice a xs.length cp) (Eq.symm hA8)) (k := ?_)
      refine WQ.load (v := GCmd.val r6) (fun w_ k_ => ((he9.adds K).adds k_).ldW (T := 32)) (k := ?_)
      refine WQ.op (d := 22) (.slice B ys.length cq) (k := ?_)
      refine WQ.op (d := 23) (.int .i64 i) (k := ?_)
      obtain ⟨b13, o14, r15, hr16, hA17, he18⟩ := SlAt.at hB (i := i) (by omega) (by omega)
      refine WQ.rw (t := 22) (v := .slice (some ⟨b13, o14, none⟩) ys.length cq) (congrArg (fun a => Value.slice a ys.length cq) hA17) (k := ?_)
      obtain ⟨hs19, hc20, hl21⟩ := fts_mem hG hr16
      refine WQ.idx (T := 22) (E := 32) (m := 15) (b := b13) (o := o14) (len := ys.length) (cap := cq) (i := i) (kk := .i64) (d := 24) (by omega) (by omega) (k := ?_)
      refine WQ.rw (t := 22) (v := .slice B ys.length cq) (congrArg (fun a => Value.slice a ys.length cq) (Eq.symm hA17)) (k := ?_)
      refine WQ.load (v := GCmd.val r15) (fun w_ k_ => ((he18.adds K).adds k_).ldW (T := 32)) (k := ?_)
      refine WQ.callG (d := 26) (f := 12) (args := #[GCmd.val r6, GCmd.val r15]) (v := .bool (decide (r6.p = r15.p))) (fun w_ k_ => u23Same_c (x := r6) (y := r15) ((hs10.adds K).adds k_) ((hs19.adds K).adds k_) (by omega) (by omega)) addsR (k := ?_)
      refine WQ.op (d := 6) (.bool (decide (r6.p = r15.p))) (k := ?_)
      refine WQ.nilX (fun w22 k23 => ?_)
      replace K := K.trans (k23.any _)
      refine WX.seqN ?_
      refine WC.seq ?_
      refine WC.region ?_
      refine WL.op (d := 27) (.bool (decide (r6.p = r15.p))) (k := ?_)
      refine WL.op (d := 28) (.bool (!(decide (r6.p = r15.p)))) (k := ?_)
      refine WL.nil ?_
      refine WX.seqN ?_
      refine WC.cond (b := !(decide (r6.p = r15.p))) (ht := fun h24 => ?_) (hf := fun h24 => ?_)
      · have h25 : (decide (r6.p = r15.p)) = false := Bool.not_inj (y := false) h24
        have ph25 := of_decide_eq_false h25
        refine WC.seq ?_
        refine WC.region ?_
        refine WL.op (d := 4) (.bool false) (k := ?_)
        refine WL.nil ?_
        refine WX.seqN ?_
        refine WC.ret ?_
        refine WX.blockR ?_
        refine WX.seqR ?_
        refine WX.seqR ?_
        refine WX.blockR ?_
        refine WX.seqR ?_
        refine WX.ret (rs := [.tmp 4]) [.bool false] (.bool false) ⟨(by kernel_rfl), trivial⟩ (k := ?_)
        exact ⟨ret_bool (eqU_bad (map_get hr7) (map_get hr16) ph25), K⟩
      · have h26 : (decide (r6.p = r15.p)) = true := Bool.not_inj (y := true) h24
        have ph26 := of_decide_eq_true h26
        refine WC.skip ?_
        refine WX.blockN ?_
        refine WX.seqN ?_
        refine WC.region ?_
        refine WL.op (d := 16) (.int .i64 i) (k := ?_)
        refine WL.opE (d := 17) (.int .i64 (IntKind.i64.wrap (i + 1))) (v := .int .i64 (i + 1)) (congrArg (Value.int .i64) (IntWalk.i64_in _ (by omega))) (k := ?_)
        refine WL.op (d := 5) (.int .i64 (i + 1)) (k := ?_)
        refine WL.nil ?_
        refine WX.round (i + 1) (by show (xs.length - (i + 1)).toNat < (xs.length - i).toNat; omega) ⟨(by kernel_rfl), (by kernel_rfl), (by kernel_rfl), (by kernel_rfl), (by kernel_rfl), (by kernel_rfl), (by kernel_rfl), (by kernel_rfl), trivial⟩ ⟨K, (by omega), (by omega), (eqU_succ i0 iu (map_get hr7) (map_get hr16) ph26)⟩
    · have ph3 := of_decide_eq_false h3
      refine WC.exit ?_
      refine WX.seqE ?_
      refine WX.seqE ?_
      refine WX.blockE ?_
      refine WX.seqN ?_
      refine WC.seq ?_
      refine WC.region ?_
      refine WL.op (d := 4) (.bool true) (k := ?_)
      refine WL.nil ?_
      refine WX.seqN ?_
      refine WC.ret ?_
      refine WX.ret (rs := [.tmp 4]) [.bool true] (.bool true) ⟨(by kernel_rfl), trivial⟩ (k := ?_)
      exact ⟨ret_bool (mapU_end (i := i) (by omega) (by omega) iu), K⟩

end Go.Proofs.Ytfpdfjbooalgjaa
