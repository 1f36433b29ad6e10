/- Logs: two epochs. -/
import Derived.Test.YtdoenmokahbeaaaDoorWl7
namespace Go.Proofs.YtdoenmokahbeaaaDoor
open Go.RowKit
set_option linter.unusedVariables false
set_option linter.unusedSimpArgs false

theorem w7last {xs : List (List UInt8)} {l r : List UInt8} {i : Int} (h : (xs.length : Int) = i) (hr : (xs ++ [l])[i.toNat]? = some r) : l = r := by
  rw [← h, Int.toNat_natCast, List.getElem?_append_right (Nat.le_refl _)] at hr; simpa using hr

set_option maxRecDepth 100000 in
set_option maxHeartbeats 4000000 in
theorem lWalEpochs_c {A B : Option Addr} {ca cb : Nat} {as_ bs : List (List UInt8)} {w : World} (hA : SlAt strC 1 9 A as_ w) (hB : SlAt strC 1 9 B bs w) (hAm : ∀ s ∈ as_, s.length ≤ 9223372036854775807) (hBm : ∀ s ∈ bs, s.length ≤ 9223372036854775807) (na : as_.length ≤ 9223372036854775807) (nb : bs.length ≤ 9223372036854775807) : Calls Tryd.prog 8 #[.slice A as_.length ca, .slice B bs.length cb] w fun e w' => e = .returned (.bool true) ∧ Adds w w' := by
  have K : Keeps (fun _ => False) w w := Keeps.refl _ w
  refine Calls.start Tryd.func8 rfl (by kernel_rfl) ?_
  refine WC.seq ?_
  refine WC.region ?_
  refine WL.op (d := 4) (.bool false) (k := ?_)
  refine WL.nil ?_
  refine WX.seqN ?_
  refine WC.seq ?_
  refine WC.region ?_
  refine WL.callG (d := 20) (f := 27) (args := #[]) (l07awake_c w) (k := fun e_ w1 h_ => ⟨.bool true, h_.1, ?_⟩)
  have k2 := h_.2; clear h_
  replace K := K.trans (k2.any _)
  refine WL.op (d := 5) (.bool true) (k := ?_)
  refine WL.nil ?_
  refine WX.seqN ?_
  refine WC.seq ?_
  refine WC.region ?_
  refine WL.callG (d := 21) (f := 28) (args := #[.int .i64 8]) (dNew_ok (n := 8) (by omega) (by omega) w1) (k := fun e_ w3 h_ => ?_)
  obtain ⟨b4, S5, rfl, g6, hd7, ho8, k9⟩ := h_
  refine ⟨_, rfl, ?_⟩
  have lk10 : ∀ k, S5 k → False ∨ w.heap.size ≤ k := fun k h => .inr (Nat.le_trans K.size (ho8 k h))
  have z11 := Nat.le_trans K.size g6
  replace K := K.trans (k9.any _)
  change DiskAt S5 b4 (⟨List.replicate 8 (List.replicate 64 (0 : UInt8)), [], 0, 0⟩ : GDisk) w3 at hd7
  have ln12 : (List.replicate 8 (List.replicate 64 (0 : UInt8))).length = 8 := List.length_replicate
  have ln13 : (GDisk.secs (⟨List.replicate 8 (List.replicate 64 (0 : UInt8)), [], 0, 0⟩ : GDisk)).length = 8 := List.length_replicate
  refine WL.op (d := 6) (.pointer (some ⟨b4, 0, none⟩)) (k := ?_)
  refine WL.nil ?_
  refine WX.seqN ?_
  refine WC.seq ?_
  refine WC.region ?_
  refine WL.op (d := 22) (.pointer (some ⟨b4, 0, none⟩)) (k := ?_)
  refine WL.callG (d := 23) (f := 29) (args := #[.pointer (some ⟨b4, 0, none⟩), .int .i64 0, .int .i64 8]) (wlNew_ok (at_ := 0) (n := 8) hd7 (by omega) (by omega) ⟨by decide, by decide, by simp⟩) (k := fun e_ w14 h_ => ?_)
  obtain ⟨b15, rfl, g16, hb17, k18⟩ := h_
  refine ⟨_, rfl, ?_⟩
  have z19 := Nat.le_trans K.size g16
  have n20 : ¬ S5 b15 := fun h => absurd (hd7.lt _ h) (Nat.not_lt.2 g16)
  replace hd7 := hd7.adds k18
  replace K := K.trans (k18.any _)
  refine WL.op (d := 7) (.pointer (some ⟨b15, 0, none⟩)) (k := ?_)
  refine WL.nil ?_
  refine WX.seqN ?_
  refine WC.seq ?_
  refine WC.seq ?_
  refine WC.region ?_
  refine WL.op (d := 24) (.pointer (some ⟨b4, 0, none⟩)) (k := ?_)
  refine WL.op (d := 25) (.bool false) (k := ?_)
  refine WL.op (d := 26) (.bool false) (k := ?_)
  refine WL.op (d := 27) (.pointer (some ⟨b15, 0, none⟩)) (k := ?_)
  refine WL.op (d := 28) (.bool false) (k := ?_)
  refine WL.op (d := 29) (.bool false) (k := ?_)
  refine WL.nil ?_
  refine WX.seqN ?_
  refine WC.condF (k := ?_)
  refine WC.skip ?_
  refine WX.seqN ?_
  refine WC.seq ?_
  refine WC.region ?_
  refine WL.op (d := 30) (.pointer (some ⟨b15, 0, none⟩)) (k := ?_)
  refine WL.callG (d := 31) (f := 30) (args := #[.pointer (some ⟨b15, 0, none⟩), .int .u64 5]) (wlStart_ok (e := 5) hb17 (by omega)) (k := fun e_ w21 h_ => ?_)
  obtain ⟨rfl, hb22, k23⟩ := h_
  refine ⟨_, rfl, ?_⟩
  replace hd7 := hd7.keeps k23 (fun i hi e => n20 (e ▸ hi))
  replace K := K.trans' k23 (fun i hi e => absurd (e ▸ hi) (Nat.not_lt.2 z19))
  clear hb17
  refine WL.nil ?_
  refine WX.seqN ?_
  refine WC.seq ?_
  refine WC.region ?_
  refine WL.op (d := 8) (.slice none 0 0) (k := ?_)
  refine WL.nil ?_
  refine WX.seqN ?_
  refine WC.seq ?_
  refine WC.seq ?_
  refine WC.region ?_
  refine WL.op (d := 9) (.int .i64 0) (k := ?_)
  refine WL.nil ?_
  refine WX.seqN ?_
  refine WC.block ?_
  refine WC.loop (ι := Int × (List (List UInt8)) × (Option Addr) × Nat × (List (List UInt8)) × Int × (Nat → Prop)) (fun (⟨i, xs, Ao, co, sc, rd, Si⟩ : Int × (List (List UInt8)) × (Option Addr) × Nat × (List (List UInt8)) × Int × (Nat → Prop)) => [(0, .slice A as_.length ca), (1, .slice B bs.length cb), (20, .bool true), (5, .bool true), (21, .pointer (some ⟨b4, 0, none⟩)), (6, .pointer (some ⟨b4, 0, none⟩)), (22, .pointer (some ⟨b4, 0, none⟩)), (23, .pointer (some ⟨b15, 0, none⟩)), (7, .pointer (some ⟨b15, 0, none⟩)), (24, .pointer (some ⟨b4, 0, none⟩)), (25, .bool false), (26, .bool false), (27, .pointer (some ⟨b15, 0, none⟩)), (28, .bool false), (29, .bool false), (30, .pointer (some ⟨b15, 0, none⟩)), (9, .int .i64 i), (8, .slice Ao xs.length co)]) (fun (⟨i, xs, Ao, co, sc, rd, Si⟩ : Int × (List (List UInt8)) × (Option Addr) × Nat × (List (List UInt8)) × Int × (Nat → Prop)) (w_ : World) => (Keeps (fun _ => False) w w_) ∧ (DiskAt Si b4 (⟨sc, [], 0, rd⟩ : GDisk) w_) ∧ (∀ k, Si k → (fun _ => False) k ∨ w.heap.size ≤ k) ∧ (¬ Si b15) ∧ (∀ i, blk Ao = some i → ¬ Si i) ∧ (w_.heap[b15]? = some (.cells #[.pointer (some ⟨b4, 0, none⟩), .int .i64 0, .int .i64 8, .iface 97 (.agg #[.int .u64 5, .int .i64 (xs.length : Int)])] 95 (0, 0))) ∧ (OwAt strC 1 9 Ao co xs w_) ∧ (∀ i, blk Ao = some i → w.heap.size ≤ i) ∧ (0 ≤ i) ∧ ((xs.length : Int) = i) ∧ (i ≤ 8) ∧ (lay sc xs [])) (fun (⟨i, xs, Ao, co, sc, rd, Si⟩ : Int × (List (List UInt8)) × (Option Addr) × Nat × (List (List UInt8)) × Int × (Nat → Prop)) => (8 - i).toNat) (0, [], none, 0, List.replicate 8 (List.replicate 64 (0 : UInt8)), 0, S5) ⟨(by kernel_rfl), (by kernel_rfl), (by kernel_rfl), (by kernel_rfl), (by kernel_rfl), (by kernel_rfl), (by kernel_rfl), (by kernel_rfl), (by kernel_rfl), (by kernel_rfl), (by kernel_rfl), (by kernel_rfl), (by kernel_rfl), (by kernel_rfl), (by kernel_rfl), (by kernel_rfl), (by kernel_rfl), (by kernel_rfl), trivial⟩ ⟨K, hd7, lk10, n20, (fun i hi => by simp [blk] at hi), hb22, OwAt.nil, (by simp [blk]), Int.le_refl 0, rfl, (by decide), lay_zero⟩ ?_
  rintro ⟨i, xs, Ao, co, sc, rd, Si⟩ w24 ⟨K, hb25, lk26, n27, n28, hb29, hb30, ol31, i0, iq, i8, hlx⟩
  have ls_ := hlx.1
  refine WC.seq ?_
  refine WC.seq ?_
  refine WC.region ?_
  refine WL.op (d := 32) (.int .i64 i) (k := ?_)
  refine WL.op (d := 33) (.slice A as_.length ca) (k := ?_)
  refine WL.op (d := 34) (.int .i64 (as_.length : Int)) (k := ?_)
  refine WL.op (d := 35) (.bool (decide (i < (as_.length : Int)))) (k := ?_)
  refine WL.op (d := 36) (.bool (decide (i < (as_.length : Int)))) (k := ?_)
  refine bsplit (decide (i < (as_.length : Int))) (fun h32 => ?_) (fun h32 => ?_)
  · have ph32 := of_decide_eq_true h32
    refine WL.rw (t := 36) (v := .bool true) (congrArg Value.bool h32) (k := ?_)
    refine WL.op (d := 37) (.int .i64 i) (k := ?_)
    refine WL.op (d := 38) (.bool (decide (i < 8))) (k := ?_)
    refine WL.op (d := 39) (.bool (decide (i < 8))) (k := ?_)
    refine WL.nil ?_
    refine WX.seqN ?_
    refine WC.cond (b := decide (i < 8)) (ht := fun h33 => ?_) (hf := fun h33 => ?_)
    · have ph33 := of_decide_eq_true h33
      refine WC.skip ?_
      refine WX.seqN ?_
      refine WC.seq ?_
      refine WC.block ?_
      refine WC.seq ?_
      refine WC.region ?_
      refine WL.op (d := 42) (.slice Ao xs.length co) (k := ?_)
      refine WL.op (d := 43) (.slice A as_.length ca) (k := ?_)
      refine WL.op (d := 44) (.int .i64 i) (k := ?_)
      obtain ⟨b34, o35, r36, hr37, hA38, he39⟩ := SlAt.at hA (i := i) (by omega) (by omega)
      refine WL.rw (t := 43) (v := .slice (some ⟨b34, o35, none⟩) as_.length ca) (congrArg (fun a => Value.slice a as_.length ca) hA38) (k := ?_)
      have ll40 := hAm _ (List.mem_of_getElem? hr37)
      refine WL.idx (T := 44) (E := 9) (m := 1) (b := b34) (o := o35) (len := as_.length) (cap := ca) (i := i) (kk := .i64) (d := 45) (by omega) (by omega) (k := ?_)
      refine WL.rw (t := 43) (v := .slice A as_.length ca) (congrArg (fun a => Value.slice a as_.length ca) (Eq.symm hA38)) (k := ?_)
      refine WL.load (v := .string ⟨(r36).toArray⟩) ((he39.adds K).ld0 (T := 9)) (k := ?_)
      refine WL.callG (d := 47) (f := 31) (args := #[.string ⟨(r36).toArray⟩, .int .i64 43]) (l07short_c r36 43 (by omega) (by show List.length r36 ≤ _; first | omega | (simp; done) | (simp; omega)) w24) (k := fun e_ w41 h_ => ?_)
      obtain ⟨l42, hl43, rfl, k44⟩ := h_
      refine ⟨_, rfl, ?_⟩
      replace hb25 := hb25.adds k44
      replace hb29 := k44.heap hb29 id
      replace hb30 := hb30.adds k44
      replace K := K.trans (k44.any _)
      refine WL.newF (d := 48) (T := 9) #[.string ⟨(l42).toArray⟩] (fun b => .slice (some ⟨b, 0, none⟩) 1 1) (k := fun b45 w46 g47 hb48 k49 => ?_)
      have z50 := Nat.le_trans K.size g47
      have n51 : ¬ Si b45 := fun h => absurd (hb25.lt _ h) (Nat.not_lt.2 g47)
      have n52 : b15 ≠ b45 := Nat.ne_of_lt (Nat.lt_of_lt_of_le (lt_of_heap hb29) g47)
      have n53 := OwAt.off_new hb30 g47
      replace hb25 := hb25.adds k49
      replace hb29 := k49.heap hb29 id
      replace hb30 := hb30.adds k49
      replace K := K.trans (k49.any _)
      refine WL.append (d := 49) (T := 44) (cl := strC) (xs := xs) (ys := [l42]) (c := 1) ekStr hb30 (SlAt.of_lit (ys := [l42]) ekStr hb48 (by kernel_rfl)) (by first | omega | (simp; omega)) (k := fun A54 c55 w56 ho57 k58 n59 => ?_)
      have ol60 := olink_step ol31 K n59
      have n61 := fp_step n59 n28 hb25.lt
      replace hb25 := hb25.keeps k58 (fun i hi e => n28 i e hi)
      replace hb29 := k58.heap hb29 (hb30.offT hb29 (by decide))
      replace K := K.trans' k58 (fun i hi e => absurd hi (Nat.not_lt.2 (ol31 i e)))
      clear hb30
      refine WL.op (d := 8) (.slice A54 ((xs ++ [l42]).length) c55) (k := ?_)
      refine WL.nil ?_
      refine WX.seqN ?_
      refine WC.seq ?_
      have la_ : List.length (xs ++ [l42]) = xs.length + 1 := by simp
      refine WC.region ?_
      refine WL.op (d := 50) (.pointer (some ⟨b15, 0, none⟩)) (k := ?_)
      refine WL.op (d := 51) (.slice A54 ((xs ++ [l42]).length) c55) (k := ?_)
      refine WL.op (d := 52) (.int .i64 i) (k := ?_)
      obtain ⟨b62, o63, r64, hr65, hA66, he67⟩ := SlAt.at (ho57.sl ekStr) (i := i) (by omega) (by omega)
      refine WL.rw (t := 51) (v := .slice (some ⟨b62, o63, none⟩) ((xs ++ [l42]).length) c55) (congrArg (fun a => Value.slice a ((xs ++ [l42]).length) c55) hA66) (k := ?_)
      have w7e_ : r64 = l42 := (w7last (by omega) hr65).symm
      have w7f_ : List.length r64 = List.length l42 := by rw [w7e_]
      refine WL.idx (T := 44) (E := 9) (m := 1) (b := b62) (o := o63) (len := (xs ++ [l42]).length) (cap := c55) (i := i) (kk := .i64) (d := 53) (by omega) (by omega) (k := ?_)
      refine WL.rw (t := 51) (v := .slice A54 ((xs ++ [l42]).length) c55) (congrArg (fun a => Value.slice a ((xs ++ [l42]).length) c55) (Eq.symm hA66)) (k := ?_)
      refine WL.load (v := .string ⟨(r64).toArray⟩) (he67.ld0 (T := 9)) (k := ?_)
      refine bsplit (decide ((xs.length : Int) < 8)) (fun h68 => ?_) (fun h68 => ?_)
      · have ph68 := of_decide_eq_true h68
        refine WL.callG (d := 55) (f := 32) (args := #[.pointer (some ⟨b15, 0, none⟩), .string ⟨(r64).toArray⟩]) (wlAppend_good (l := r64) (e := 5) (r := (xs.length : Int)) hb29 hb25 n27 (by show List.length r64 ≤ 43; first | omega | (simp; done) | (simp; omega)) (by omega) (by omega) (by omega) (by omega) (by omega) (by omega) (by omega)) (k := fun e_ w69 h_ => ?_)
        obtain ⟨S70, rfl, hb71, hd72, lk73, n74, k75⟩ := h_
        refine ⟨_, rfl, ?_⟩
        have n76 : ∀ i, blk A54 = some i → ¬ S70 i := fun i hi h => (lk73 _ h).elim (n61 i hi) (fun h2 => absurd (ho57.lt i hi) (Nat.not_lt.2 h2))
        have lk77 := lk_step lk26 lk73 K
        replace K := K.trans' k75 (fun i hi e => e.elim (fun e => absurd (e ▸ hi) (Nat.not_lt.2 z19)) (fun e => (lk26 i e).elim (fun h => h.elim) (fun h => absurd hi (Nat.not_lt.2 h))))
        replace ho57 := ho57.keeps k75 (fun i hi h => h.elim (fun h => (ho57.offT hb29 (by decide)) (h ▸ hi)) (n61 i hi))
        clear hb29
        clear hb25
        change DiskAt S70 b4 (⟨List.set sc (0 + (xs.length : Int)).toNat (makeS r64 5 (xs.length : Int).toNat), [], 0, rd⟩ : GDisk) w69 at hd72
        have ln78 : (List.set sc (0 + (xs.length : Int)).toNat (makeS r64 5 (xs.length : Int).toNat)).length = List.length sc := List.length_set ..
        refine WL.op (d := 56) (.bool false) (k := ?_)
        refine WL.nil ?_
        refine WX.seqN ?_
        refine WC.condF (k := ?_)
        refine WC.skip ?_
        refine WX.blockN ?_
        refine WX.seqN ?_
        refine WC.region ?_
        refine WL.op (d := 40) (.int .i64 i) (k := ?_)
        refine WL.opE (d := 41) (.int .i64 (IntKind.i64.wrap (i + 1))) (v := .int .i64 (i + 1)) (congrArg (Value.int .i64) (IntWalk.i64_in _ (by omega))) (k := ?_)
        refine WL.op (d := 9) (.int .i64 (i + 1)) (k := ?_)
        refine WL.nil ?_
        rw [show (xs.length : Int) + 1 = (List.length (xs ++ [l42]) : Int) from by simp] at hb71
        refine WX.round (i + 1, xs ++ [l42], A54, c55, List.set sc (0 + (xs.length : Int)).toNat (makeS r64 5 (xs.length : Int).toNat), rd, S70) (by show (8 - (i + 1)).toNat < (8 - i).toNat; omega) ⟨(by kernel_rfl), (by kernel_rfl), (by kernel_rfl), (by kernel_rfl), (by kernel_rfl), (by kernel_rfl), (by kernel_rfl), (by kernel_rfl), (by kernel_rfl), (by kernel_rfl), (by kernel_rfl), (by kernel_rfl), (by kernel_rfl), (by kernel_rfl), (by kernel_rfl), (by kernel_rfl), (by kernel_rfl), (by kernel_rfl), trivial⟩ ⟨K, hd72, lk77, n74, n76, hb71, ho57, ol60, (by omega), (by simp; omega), (by omega), (by subst w7e_; have e_ : (0 + (xs.length : Int)).toNat = xs.length := (by omega); rw [e_, Int.toNat_natCast]; exact lay_x hlx (by omega) (by omega))⟩
      · have ph68 := of_decide_eq_false h68
        refine WL.callG (d := 55) (f := 32) (args := #[.pointer (some ⟨b15, 0, none⟩), .string ⟨(r64).toArray⟩]) (wlAppend_full (l := r64) hb29 hb25 n27 (by show List.length r64 ≤ 43; first | omega | (simp; done) | (simp; omega)) (by omega)) (k := fun e_ w79 h_ => ⟨.int .i64 22, h_.1, ?_⟩)
        have k80 := h_.2; clear h_
        replace hb25 := hb25.adds k80
        replace hb29 := k80.heap hb29 id
        replace ho57 := ho57.adds k80
        replace he67 := he67.adds k80
        replace K := K.trans (k80.any _)
        refine WL.op (d := 56) (.bool true) (k := ?_)
        refine WL.nil ?_
        refine WX.seqN ?_
        refine WC.condT (k := ?_)
        refine WC.seq ?_
        refine WC.region ?_
        refine WL.op (d := 4) (.bool false) (k := ?_)
        refine WL.nil ?_
        refine WX.seqN ?_
        refine WC.ret ?_
        refine WX.blockR ?_
        refine WX.seqR ?_
        refine WX.seqR ?_
        refine WX.blockR ?_
        refine WX.seqR ?_
        refine WX.ret (rs := [.tmp 4]) [.bool false] (.bool false) ⟨(by kernel_rfl), trivial⟩ (k := ?_)
        exfalso; omega
    · have ph33 := of_decide_eq_false h33
      refine WC.exit ?_
      refine WX.seqE ?_
      refine WX.seqE ?_
      refine WX.blockE ?_
      refine WX.seqN ?_
      refine WC.seq ?_
      refine WC.region ?_
      refine WL.op (d := 58) (.pointer (some ⟨b15, 0, none⟩)) (k := ?_)
      obtain ⟨r81, hs82⟩ : ∃ r, scanGo 0 6 (8 : Int).toNat (⟨sc, [], 0, rd⟩ : GDisk) [] = (([] : List (List UInt8)), 0, ⟨sc, [], 0, r⟩) := lay_s6 hlx
      refine WL.callG (d := 59) (f := 33) (args := #[.pointer (some ⟨b15, 0, none⟩), .int .u64 6]) (wlScan_good (e := 6) (xs := ([] : List (List UInt8))) hb29 hb25 n27 (by omega) (by omega) (by omega) (by omega) (by omega) hs82) (k := fun e_ w83 h_ => ?_)
      obtain ⟨A84, c85, rfl, hb86, ho87, ol88, hd89, n90, k91⟩ := h_
      refine ⟨_, rfl, ?_⟩
      have ol92 := fun i h => Nat.le_trans K.size (ol88 i h)
      have ln93 : List.length ([] : List (List UInt8)) = 0 := rfl
      replace K := K.trans' k91 (fun i hi e => e.elim (fun e => absurd (e ▸ hi) (Nat.not_lt.2 z19)) (fun e => (lk26 i e).elim (fun h => h.elim) (fun h => absurd hi (Nat.not_lt.2 h))))
      replace hb30 := hb30.keeps k91 (fun i hi h => h.elim (fun h => (hb30.offT hb29 (by decide)) (h ▸ hi)) (n28 i hi))
      clear hb29
      clear hb25 ol88
      refine WL.op (d := 57) (.tuple #[.slice A84 0 c85, .int .i64 0]) (k := ?_)
      refine WL.op (d := 60) (.slice A84 0 c85) (k := ?_)
      refine WL.op (d := 61) (.int .i64 0) (k := ?_)
      refine WL.op (d := 10) (.slice A84 0 c85) (k := ?_)
      refine WL.op (d := 11) (.int .i64 0) (k := ?_)
      refine WL.nil ?_
      refine WX.seqN ?_
      refine WC.seq ?_
      refine WC.seq ?_
      refine WC.region ?_
      refine WL.op (d := 62) (.int .i64 0) (k := ?_)
      refine WL.op (d := 63) (.bool false) (k := ?_)
      refine WL.op (d := 64) (.bool false) (k := ?_)
      refine WL.op (d := 65) (.slice A84 0 c85) (k := ?_)
      refine WL.op (d := 66) (.int .i64 0) (k := ?_)
      refine WL.op (d := 67) (.bool false) (k := ?_)
      refine WL.op (d := 68) (.bool false) (k := ?_)
      refine WL.nil ?_
      refine WX.seqN ?_
      refine WC.condF (k := ?_)
      refine WC.skip ?_
      refine WX.seqN ?_
      refine WC.seq ?_
      refine WC.region ?_
      refine WL.op (d := 12) (.slice none 0 0) (k := ?_)
      refine WL.nil ?_
      refine WX.seqN ?_
      refine WC.seq ?_
      refine WC.seq ?_
      refine WC.region ?_
      refine WL.op (d := 13) (.int .i64 0) (k := ?_)
      refine WL.nil ?_
      refine WX.seqN ?_
      refine WC.block ?_
      refine WC.loop (ι := Int × (List (List UInt8)) × (Option Addr) × Nat × (List (List UInt8)) × Int × (Nat → Prop)) (fun (⟨j, ys, Bo, bo, sd, re, Sj⟩ : Int × (List (List UInt8)) × (Option Addr) × Nat × (List (List UInt8)) × Int × (Nat → Prop)) => [(0, .slice A as_.length ca), (1, .slice B bs.length cb), (20, .bool true), (5, .bool true), (21, .pointer (some ⟨b4, 0, none⟩)), (6, .pointer (some ⟨b4, 0, none⟩)), (22, .pointer (some ⟨b4, 0, none⟩)), (23, .pointer (some ⟨b15, 0, none⟩)), (7, .pointer (some ⟨b15, 0, none⟩)), (24, .pointer (some ⟨b4, 0, none⟩)), (25, .bool false), (26, .bool false), (27, .pointer (some ⟨b15, 0, none⟩)), (28, .bool false), (29, .bool false), (30, .pointer (some ⟨b15, 0, none⟩)), (9, .int .i64 i), (8, .slice Ao xs.length co), (32, .int .i64 i), (33, .slice A as_.length ca), (34, .int .i64 (as_.length : Int)), (35, .bool (decide (i < (as_.length : Int)))), (36, .bool true), (37, .int .i64 i), (38, .bool (decide (i < 8))), (39, .bool (decide (i < 8))), (58, .pointer (some ⟨b15, 0, none⟩)), (59, .tuple #[.slice A84 0 c85, .int .i64 0]), (57, .tuple #[.slice A84 0 c85, .int .i64 0]), (60, .slice A84 0 c85), (61, .int .i64 0), (10, .slice A84 0 c85), (11, .int .i64 0), (62, .int .i64 0), (63, .bool false), (64, .bool false), (65, .slice A84 0 c85), (66, .int .i64 0), (67, .bool false), (68, .bool false), (13, .int .i64 j), (12, .slice Bo ys.length bo)]) (fun (⟨j, ys, Bo, bo, sd, re, Sj⟩ : Int × (List (List UInt8)) × (Option Addr) × Nat × (List (List UInt8)) × Int × (Nat → Prop)) (w_ : World) => (Keeps (fun _ => False) w w_) ∧ (DiskAt Sj b4 (⟨sd, [], 0, re⟩ : GDisk) w_) ∧ (∀ k, Sj k → (fun _ => False) k ∨ w.heap.size ≤ k) ∧ (¬ Sj b15) ∧ (∀ i, blk Bo = some i → ¬ Sj i) ∧ (w_.heap[b15]? = some (.cells #[.pointer (some ⟨b4, 0, none⟩), .int .i64 0, .int .i64 8, .iface 97 (.agg #[.int .u64 6, .int .i64 (ys.length : Int)])] 95 (0, 0))) ∧ (OwAt strC 1 9 Bo bo ys w_) ∧ (∀ i, blk Bo = some i → w.heap.size ≤ i) ∧ (0 ≤ j) ∧ ((ys.length : Int) = j) ∧ (j ≤ 8) ∧ (lay sd xs ys)) (fun (⟨j, ys, Bo, bo, sd, re, Sj⟩ : Int × (List (List UInt8)) × (Option Addr) × Nat × (List (List UInt8)) × Int × (Nat → Prop)) => (8 - j).toNat) (0, [], none, 0, sc, r81, Si) ⟨(by kernel_rfl), (by kernel_rfl), (by kernel_rfl), (by kernel_rfl), (by kernel_rfl), (by kernel_rfl), (by kernel_rfl), (by kernel_rfl), (by kernel_rfl), (by kernel_rfl), (by kernel_rfl), (by kernel_rfl), (by kernel_rfl), (by kernel_rfl), (by kernel_rfl), (by kernel_rfl), (by kernel_rfl), (by kernel_rfl), (by kernel_rfl), (by kernel_rfl), (by kernel_rfl), (by kernel_rfl), (by kernel_rfl), (by kernel_rfl), (by kernel_rfl), (by kernel_rfl), (by kernel_rfl), (by kernel_rfl), (by kernel_rfl), (by kernel_rfl), (by kernel_rfl), (by kernel_rfl), (by kernel_rfl), (by kernel_rfl), (by kernel_rfl), (by kernel_rfl), (by kernel_rfl), (by kernel_rfl), (by kernel_rfl), (by kernel_rfl), (by kernel_rfl), (by kernel_rfl), trivial⟩ ⟨K, hd89, lk26, n27, (fun i hi => by simp [blk] at hi), hb86, OwAt.nil, (by simp [blk]), Int.le_refl 0, rfl, (by decide), hlx⟩ ?_
      rintro ⟨j, ys, Bo, bo, sd, re, Sj⟩ w94 ⟨K, hb95, lk96, n97, n98, hb99, hb100, ol101, i0, iq, i8, hly⟩
      have ls_ := hly.1
      refine WC.seq ?_
      refine WC.seq ?_
      refine WC.region ?_
      refine WL.op (d := 69) (.int .i64 j) (k := ?_)
      refine WL.op (d := 70) (.slice B bs.length cb) (k := ?_)
      refine WL.op (d := 71) (.int .i64 (bs.length : Int)) (k := ?_)
      refine WL.op (d := 72) (.bool (decide (j < (bs.length : Int)))) (k := ?_)
      refine WL.op (d := 73) (.bool (decide (j < (bs.length : Int)))) (k := ?_)
      refine bsplit (decide (j < (bs.length : Int))) (fun h102 => ?_) (fun h102 => ?_)
      · have ph102 := of_decide_eq_true h102
        refine WL.rw (t := 73) (v := .bool true) (congrArg Value.bool h102) (k := ?_)
        refine WL.op (d := 74) (.int .i64 j) (k := ?_)
        refine WL.op (d := 75) (.bool (decide (j < 8))) (k := ?_)
        refine WL.op (d := 76) (.bool (decide (j < 8))) (k := ?_)
        refine WL.nil ?_
        refine WX.seqN ?_
        refine WC.cond (b := decide (j < 8)) (ht := fun h103 => ?_) (hf := fun h103 => ?_)
        · have ph103 := of_decide_eq_true h103
          refine WC.skip ?_
          refine WX.seqN ?_
          refine WC.seq ?_
          refine WC.block ?_
          refine WC.seq ?_
          refine WC.region ?_
          refine WL.op (d := 79) (.slice Bo ys.length bo) (k := ?_)
          refine WL.op (d := 80) (.slice B bs.length cb) (k := ?_)
          refine WL.op (d := 81) (.int .i64 j) (k := ?_)
          obtain ⟨b104, o105, r106, hr107, hA108, he109⟩ := SlAt.at hB (i := j) (by omega) (by omega)
          refine WL.rw (t := 80) (v := .slice (some ⟨b104, o105, none⟩) bs.length cb) (congrArg (fun a => Value.slice a bs.length cb) hA108) (k := ?_)
          have ll110 := hBm _ (List.mem_of_getElem? hr107)
          refine WL.idx (T := 44) (E := 9) (m := 1) (b := b104) (o := o105) (len := bs.length) (cap := cb) (i := j) (kk := .i64) (d := 82) (by omega) (by omega) (k := ?_)
          refine WL.rw (t := 80) (v := .slice B bs.length cb) (congrArg (fun a => Value.slice a bs.length cb) (Eq.symm hA108)) (k := ?_)
          refine WL.load (v := .string ⟨(r106).toArray⟩) ((he109.adds K).ld0 (T := 9)) (k := ?_)
          refine WL.callG (d := 84) (f := 31) (args := #[.string ⟨(r106).toArray⟩, .int .i64 43]) (l07short_c r106 43 (by omega) (by show List.length r106 ≤ _; first | omega | (simp; done) | (simp; omega)) w94) (k := fun e_ w111 h_ => ?_)
          obtain ⟨l112, hl113, rfl, k114⟩ := h_
          refine ⟨_, rfl, ?_⟩
          replace hb95 := hb95.adds k114
          replace hb99 := k114.heap hb99 id
          replace hb100 := hb100.adds k114
          replace K := K.trans (k114.any _)
          refine WL.newF (d := 85) (T := 9) #[.string ⟨(l112).toArray⟩] (fun b => .slice (some ⟨b, 0, none⟩) 1 1) (k := fun b115 w116 g117 hb118 k119 => ?_)
          have z120 := Nat.le_trans K.size g117
          have n121 : ¬ Sj b115 := fun h => absurd (hb95.lt _ h) (Nat.not_lt.2 g117)
          have n122 : b15 ≠ b115 := Nat.ne_of_lt (Nat.lt_of_lt_of_le (lt_of_heap hb99) g117)
          have n123 := OwAt.off_new hb100 g117
          replace hb95 := hb95.adds k119
          replace hb99 := k119.heap hb99 id
          replace hb100 := hb100.adds k119
          replace K := K.trans (k119.any _)
          refine WL.append (d := 86) (T := 44) (cl := strC) (xs := ys) (ys := [l112]) (c := 1) ekStr hb100 (SlAt.of_lit (ys := [l112]) ekStr hb118 (by kernel_rfl)) (by first | omega | (simp; omega)) (k := fun A124 c125 w126 ho127 k128 n129 => ?_)
          have ol130 := olink_step ol101 K n129
          have n131 := fp_step n129 n98 hb95.lt
          replace hb95 := hb95.keeps k128 (fun i hi e => n98 i e hi)
          replace hb99 := k128.heap hb99 (hb100.offT hb99 (by decide))
          replace K := K.trans' k128 (fun i hi e => absurd hi (Nat.not_lt.2 (ol101 i e)))
          clear hb100
          refine WL.op (d := 12) (.slice A124 ((ys ++ [l112]).length) c125) (k := ?_)
          refine WL.nil ?_
          refine WX.seqN ?_
          refine WC.seq ?_
          have la_ : List.length (ys ++ [l112]) = ys.length + 1 := by simp
          refine WC.region ?_
          refine WL.op (d := 87) (.pointer (some ⟨b15, 0, none⟩)) (k := ?_)
          refine WL.op (d := 88) (.slice A124 ((ys ++ [l112]).length) c125) (k := ?_)
          refine WL.op (d := 89) (.int .i64 j) (k := ?_)
          obtain ⟨b132, o133, r134, hr135, hA136, he137⟩ := SlAt.at (ho127.sl ekStr) (i := j) (by omega) (by omega)
          refine WL.rw (t := 88) (v := .slice (some ⟨b132, o133, none⟩) ((ys ++ [l112]).length) c125) (congrArg (fun a => Value.slice a ((ys ++ [l112]).length) c125) hA136) (k := ?_)
          have w7e_ : r134 = l112 := (w7last (by omega) hr135).symm
          have w7f_ : List.length r134 = List.length l112 := by rw [w7e_]
          refine WL.idx (T := 44) (E := 9) (m := 1) (b := b132) (o := o133) (len := (ys ++ [l112]).length) (cap := c125) (i := j) (kk := .i64) (d := 90) (by omega) (by omega) (k := ?_)
          refine WL.rw (t := 88) (v := .slice A124 ((ys ++ [l112]).length) c125) (congrArg (fun a => Value.slice a ((ys ++ [l112]).length) c125) (Eq.symm hA136)) (k := ?_)
          refine WL.load (v := .string ⟨(r134).toArray⟩) (he137.ld0 (T := 9)) (k := ?_)
          refine bsplit (decide ((ys.length : Int) < 8)) (fun h138 => ?_) (fun h138 => ?_)
          · have ph138 := of_decide_eq_true h138
            refine WL.callG (d := 92) (f := 32) (args := #[.pointer (some ⟨b15, 0, none⟩), .string ⟨(r134).toArray⟩]) (wlAppend_good (l := r134) (e := 6) (r := (ys.length : Int)) hb99 hb95 n97 (by show List.length r134 ≤ 43; first | omega | (simp; done) | (simp; omega)) (by omega) (by omega) (by omega) (by omega) (by omega) (by omega) (by omega)) (k := fun e_ w139 h_ => ?_)
            obtain ⟨S140, rfl, hb141, hd142, lk143, n144, k145⟩ := h_
            refine ⟨_, rfl, ?_⟩
            have n146 : ∀ i, blk A124 = some i → ¬ S140 i := fun i hi h => (lk143 _ h).elim (n131 i hi) (fun h2 => absurd (ho127.lt i hi) (Nat.not_lt.2 h2))
            have lk147 := lk_step lk96 lk143 K
            replace K := K.trans' k145 (fun i hi e => e.elim (fun e => absurd (e ▸ hi) (Nat.not_lt.2 z19)) (fun e => (lk96 i e).elim (fun h => h.elim) (fun h => absurd hi (Nat.not_lt.2 h))))
            replace ho127 := ho127.keeps k145 (fun i hi h => h.elim (fun h => (ho127.offT hb99 (by decide)) (h ▸ hi)) (n131 i hi))
            clear hb99
            clear hb95
            change DiskAt S140 b4 (⟨List.set sd (0 + (ys.length : Int)).toNat (makeS r134 6 (ys.length : Int).toNat), [], 0, re⟩ : GDisk) w139 at hd142
            have ln148 : (List.set sd (0 + (ys.length : Int)).toNat (makeS r134 6 (ys.length : Int).toNat)).length = List.length sd := List.length_set ..
            refine WL.op (d := 93) (.bool false) (k := ?_)
            refine WL.nil ?_
            refine WX.seqN ?_
            refine WC.condF (k := ?_)
            refine WC.skip ?_
            refine WX.blockN ?_
            refine WX.seqN ?_
            refine WC.region ?_
            refine WL.op (d := 77) (.int .i64 j) (k := ?_)
            refine WL.opE (d := 78) (.int .i64 (IntKind.i64.wrap (j + 1))) (v := .int .i64 (j + 1)) (congrArg (Value.int .i64) (IntWalk.i64_in _ (by omega))) (k := ?_)
            refine WL.op (d := 13) (.int .i64 (j + 1)) (k := ?_)
            refine WL.nil ?_
            rw [show (ys.length : Int) + 1 = (List.length (ys ++ [l112]) : Int) from by simp] at hb141
            refine WX.round (j + 1, ys ++ [l112], A124, c125, List.set sd (0 + (ys.length : Int)).toNat (makeS r134 6 (ys.length : Int).toNat), re, S140) (by show (8 - (j + 1)).toNat < (8 - j).toNat; omega) ⟨(by kernel_rfl), (by kernel_rfl), (by kernel_rfl), (by kernel_rfl), (by kernel_rfl), (by kernel_rfl), (by kernel_rfl), (by kernel_rfl), (by kernel_rfl), (by kernel_rfl), (by kernel_rfl), (by kernel_rfl), (by kernel_rfl), (by kernel_rfl), (by kernel_rfl), (by kernel_rfl), (by kernel_rfl), (by kernel_rfl), (by kernel_rfl), (by kernel_rfl), (by kernel_rfl), (by kernel_rfl), (by kernel_rfl), (by kernel_rfl), (by kernel_rfl), (by kernel_rfl), (by kernel_rfl), (by kernel_rfl), (by kernel_rfl), (by kernel_rfl), (by kernel_rfl), (by kernel_rfl), (by kernel_rfl), (by kernel_rfl), (by kernel_rfl), (by kernel_rfl), (by kernel_rfl), (by kernel_rfl), (by kernel_rfl), (by kernel_rfl), (by kernel_rfl), (by kernel_rfl), trivial⟩ ⟨K, hd142, lk147, n144, n146, hb141, ho127, ol130, (by omega), (by simp; omega), (by omega), (by subst w7e_; have e_ : (0 + (ys.length : Int)).toNat = ys.length := (by omega); rw [e_, Int.toNat_natCast]; exact lay_y hly (by omega) (by omega))⟩
          · have ph138 := of_decide_eq_false h138
            refine WL.callG (d := 92) (f := 32) (args := #[.pointer (some ⟨b15, 0, none⟩), .string ⟨(r134).toArray⟩]) (wlAppend_full (l := r134) hb99 hb95 n97 (by show List.length r134 ≤ 43; first | omega | (simp; done) | (simp; omega)) (by omega)) (k := fun e_ w149 h_ => ⟨.int .i64 22, h_.1, ?_⟩)
            have k150 := h_.2; clear h_
            replace hb95 := hb95.adds k150
            replace hb99 := k150.heap hb99 id
            replace ho127 := ho127.adds k150
            replace he137 := he137.adds k150
            replace K := K.trans (k150.any _)
            refine WL.op (d := 93) (.bool true) (k := ?_)
            refine WL.nil ?_
            refine WX.seqN ?_
            refine WC.condT (k := ?_)
            refine WC.seq ?_
            refine WC.region ?_
            refine WL.op (d := 4) (.bool false) (k := ?_)
            refine WL.nil ?_
            refine WX.seqN ?_
            refine WC.ret ?_
            refine WX.blockR ?_
            refine WX.seqR ?_
            refine WX.seqR ?_
            refine WX.blockR ?_
            refine WX.seqR ?_
            refine WX.ret (rs := [.tmp 4]) [.bool false] (.bool false) ⟨(by kernel_rfl), trivial⟩ (k := ?_)
            exfalso; omega
        · have ph103 := of_decide_eq_false h103
          refine WC.exit ?_
          refine WX.seqE ?_
          refine WX.seqE ?_
          refine WX.blockE ?_
          refine WX.seqN ?_
          refine WC.seq ?_
          refine WC.region ?_
          refine WL.op (d := 95) (.pointer (some ⟨b15, 0, none⟩)) (k := ?_)
          obtain ⟨r151, hs152⟩ : ∃ r, scanGo 0 6 (8 : Int).toNat (⟨sd, [], 0, re⟩ : GDisk) [] = ((ys), 0, ⟨sd, [], 0, r⟩) := lay_s6 hly
          refine WL.callG (d := 96) (f := 33) (args := #[.pointer (some ⟨b15, 0, none⟩), .int .u64 6]) (wlScan_good (e := 6) (xs := (ys)) hb99 hb95 n97 (by omega) (by omega) (by omega) (by omega) (by omega) hs152) (k := fun e_ w153 h_ => ?_)
          obtain ⟨A154, c155, rfl, hb156, ho157, ol158, hd159, n160, k161⟩ := h_
          refine ⟨_, rfl, ?_⟩
          have ol162 := fun i h => Nat.le_trans K.size (ol158 i h)
          replace K := K.trans' k161 (fun i hi e => e.elim (fun e => absurd (e ▸ hi) (Nat.not_lt.2 z19)) (fun e => (lk96 i e).elim (fun h => h.elim) (fun h => absurd hi (Nat.not_lt.2 h))))
          replace hb100 := hb100.keeps k161 (fun i hi h => h.elim (fun h => (hb100.offT hb99 (by decide)) (h ▸ hi)) (n98 i hi))
          clear hb99
          clear hb95 ol158
          refine WL.op (d := 94) (.tuple #[.slice A154 (((ys)).length) c155, .int .i64 0]) (k := ?_)
          refine WL.op (d := 97) (.slice A154 (((ys)).length) c155) (k := ?_)
          refine WL.op (d := 98) (.int .i64 0) (k := ?_)
          refine WL.op (d := 14) (.slice A154 (((ys)).length) c155) (k := ?_)
          refine WL.op (d := 15) (.int .i64 0) (k := ?_)
          refine WL.nil ?_
          refine WX.seqN ?_
          refine WC.seq ?_
          refine WC.region ?_
          refine WL.op (d := 99) (.slice A154 (((ys)).length) c155) (k := ?_)
          refine WL.op (d := 100) (.slice Bo ys.length bo) (k := ?_)
          refine WL.callG (d := 101) (f := 24) (args := #[.slice A154 (((ys)).length) c155, .slice Bo ys.length bo]) (u04Same_s (cp := c155) (cq := bo) (ho157.sl ekStr) (hb100.sl ekStr) (by omega)) (k := fun e_ w163 h_ => ⟨.bool true, h_.1, ?_⟩)
          have k164 := h_.2; clear h_
          replace hd159 := hd159.adds k164
          replace hb156 := k164.heap hb156 id
          replace hb100 := hb100.adds k164
          replace ho157 := ho157.adds k164
          replace K := K.trans (k164.any _)
          refine WL.op (d := 16) (.bool true) (k := ?_)
          refine WL.nil ?_
          refine WX.seqN ?_
          refine WC.seq ?_
          refine WC.region ?_
          refine WL.op (d := 103) (.pointer (some ⟨b15, 0, none⟩)) (k := ?_)
          obtain ⟨r165, hs166⟩ : ∃ r, scanGo 0 5 (8 : Int).toNat (⟨sd, [], 0, r151⟩ : GDisk) [] = ((if List.length ys = 0 then xs else []), 0, ⟨sd, [], 0, r⟩) := lay_s5 hly
          refine WL.callG (d := 104) (f := 33) (args := #[.pointer (some ⟨b15, 0, none⟩), .int .u64 5]) (wlScan_good (e := 5) (xs := (if List.length ys = 0 then xs else [])) hb156 hd159 n97 (by omega) (by omega) (by omega) (by omega) (by omega) hs166) (k := fun e_ w167 h_ => ?_)
          obtain ⟨A168, c169, rfl, hb170, ho171, ol172, hd173, n174, k175⟩ := h_
          refine ⟨_, rfl, ?_⟩
          have ol176 := fun i h => Nat.le_trans K.size (ol172 i h)
          replace K := K.trans' k175 (fun i hi e => e.elim (fun e => absurd (e ▸ hi) (Nat.not_lt.2 z19)) (fun e => (lk96 i e).elim (fun h => h.elim) (fun h => absurd hi (Nat.not_lt.2 h))))
          replace hb100 := hb100.keeps k175 (fun i hi h => h.elim (fun h => (hb100.offT hb156 (by decide)) (h ▸ hi)) (n98 i hi))
          replace ho157 := ho157.keeps k175 (fun i hi h => h.elim (fun h => (ho157.offT hb156 (by decide)) (h ▸ hi)) (n160 i hi))
          clear hb156
          clear hd159 ol172
          refine WL.op (d := 102) (.tuple #[.slice A168 (((if List.length ys = 0 then xs else [])).length) c169, .int .i64 0]) (k := ?_)
          refine WL.op (d := 105) (.slice A168 (((if List.length ys = 0 then xs else [])).length) c169) (k := ?_)
          refine WL.op (d := 106) (.int .i64 0) (k := ?_)
          refine WL.op (d := 17) (.slice A168 (((if List.length ys = 0 then xs else [])).length) c169) (k := ?_)
          refine WL.op (d := 18) (.int .i64 0) (k := ?_)
          refine WL.nil ?_
          refine WX.seqN ?_
          refine WC.seq ?_
          refine WC.region ?_
          refine WL.op (d := 107) (.slice A168 (((if List.length ys = 0 then xs else [])).length) c169) (k := ?_)
          refine WL.op (d := 108) (.int .i64 (((if List.length ys = 0 then xs else [])).length : Int)) (k := ?_)
          refine WL.op (d := 109) (.slice Ao xs.length co) (k := ?_)
          refine WL.op (d := 110) (.int .i64 (xs.length : Int)) (k := ?_)
          refine WL.op (d := 111) (.bool ((((if List.length ys = 0 then xs else [])).length : Int) == (xs.length : Int))) (k := ?_)
          refine WL.op (d := 19) (.bool ((((if List.length ys = 0 then xs else [])).length : Int) == (xs.length : Int))) (k := ?_)
          refine WL.nil ?_
          refine WX.seqN ?_
          refine WC.seq ?_
          refine WC.seq ?_
          refine WC.region ?_
          refine WL.op (d := 112) (.slice Bo ys.length bo) (k := ?_)
          refine WL.op (d := 113) (.int .i64 (ys.length : Int)) (k := ?_)
          refine WL.op (d := 114) (.bool (decide ((ys.length : Int) > 0))) (k := ?_)
          refine WL.nil ?_
          refine WX.seqN ?_
          refine WC.cond (b := decide ((ys.length : Int) > 0)) (ht := fun h177 => ?_) (hf := fun h177 => ?_)
          · have ph177 := of_decide_eq_true h177
            refine WC.region ?_
            refine WL.op (d := 115) (.slice A168 (((if List.length ys = 0 then xs else [])).length) c169) (k := ?_)
            refine WL.op (d := 116) (.int .i64 (((if List.length ys = 0 then xs else [])).length : Int)) (k := ?_)
            refine WL.op (d := 117) (.bool ((((if List.length ys = 0 then xs else [])).length : Int) == 0)) (k := ?_)
            refine WL.op (d := 19) (.bool ((((if List.length ys = 0 then xs else [])).length : Int) == 0)) (k := ?_)
            refine WL.nil ?_
            refine WX.seqN ?_
            refine WC.seq ?_
            refine WC.region ?_
            refine WL.op (d := 118) (.bool true) (k := ?_)
            refine WL.op (d := 119) (.bool true) (k := ?_)
            refine WL.op (d := 120) (.int .i64 0) (k := ?_)
            refine WL.op (d := 121) (.bool true) (k := ?_)
            refine WL.op (d := 122) (.bool true) (k := ?_)
            refine WL.op (d := 123) (.bool true) (k := ?_)
            refine WL.op (d := 124) (.bool true) (k := ?_)
            refine WL.op (d := 125) (.bool true) (k := ?_)
            refine WL.op (d := 126) (.bool true) (k := ?_)
            refine WL.op (d := 127) (.int .i64 0) (k := ?_)
            refine WL.op (d := 128) (.bool true) (k := ?_)
            refine WL.op (d := 129) (.bool true) (k := ?_)
            refine WL.op (d := 130) (.bool true) (k := ?_)
            refine WL.op (d := 131) (.bool ((((if List.length ys = 0 then xs else [])).length : Int) == 0)) (k := ?_)
            refine WL.op (d := 132) (.bool ((((if List.length ys = 0 then xs else [])).length : Int) == 0)) (k := ?_)
            refine WL.op (d := 4) (.bool ((((if List.length ys = 0 then xs else [])).length : Int) == 0)) (k := ?_)
            refine WL.nil ?_
            refine WX.seqN ?_
            refine WC.ret ?_
            refine WX.ret (rs := [.tmp 4]) [.bool ((((if List.length ys = 0 then xs else [])).length : Int) == 0)] (.bool ((((if List.length ys = 0 then xs else [])).length : Int) == 0)) ⟨(by kernel_rfl), trivial⟩ (k := ?_)
            exact ⟨ret_bool (beq_iff_eq.2 (by rw [if_neg (by omega)]; rfl)), K⟩
          · have ph177 := of_decide_eq_false h177
            refine WC.skip ?_
            refine WX.seqN ?_
            refine WC.seq ?_
            refine WC.region ?_
            refine WL.op (d := 118) (.bool true) (k := ?_)
            refine WL.op (d := 119) (.bool true) (k := ?_)
            refine WL.op (d := 120) (.int .i64 0) (k := ?_)
            refine WL.op (d := 121) (.bool true) (k := ?_)
            refine WL.op (d := 122) (.bool true) (k := ?_)
            refine WL.op (d := 123) (.bool true) (k := ?_)
            refine WL.op (d := 124) (.bool true) (k := ?_)
            refine WL.op (d := 125) (.bool true) (k := ?_)
            refine WL.op (d := 126) (.bool true) (k := ?_)
            refine WL.op (d := 127) (.int .i64 0) (k := ?_)
            refine WL.op (d := 128) (.bool true) (k := ?_)
            refine WL.op (d := 129) (.bool true) (k := ?_)
            refine WL.op (d := 130) (.bool true) (k := ?_)
            refine WL.op (d := 131) (.bool ((((if List.length ys = 0 then xs else [])).length : Int) == (xs.length : Int))) (k := ?_)
            refine WL.op (d := 132) (.bool ((((if List.length ys = 0 then xs else [])).length : Int) == (xs.length : Int))) (k := ?_)
            refine WL.op (d := 4) (.bool ((((if List.length ys = 0 then xs else [])).length : Int) == (xs.length : Int))) (k := ?_)
            refine WL.nil ?_
            refine WX.seqN ?_
            refine WC.ret ?_
            refine WX.ret (rs := [.tmp 4]) [.bool ((((if List.length ys = 0 then xs else [])).length : Int) == (xs.length : Int))] (.bool ((((if List.length ys = 0 then xs else [])).length : Int) == (xs.length : Int))) ⟨(by kernel_rfl), trivial⟩ (k := ?_)
            exact ⟨ret_bool (beq_iff_eq.2 (by rw [if_pos (by omega)])), K⟩
      · have ph102 := of_decide_eq_false h102
        refine WL.rw (t := 73) (v := .bool false) (congrArg Value.bool h102) (k := ?_)
        refine WL.skip (d := 74) (k := ?_)
        refine WL.skip (d := 75) (k := ?_)
        refine WL.op (d := 76) (.bool false) (k := ?_)
        refine WL.nil ?_
        refine WX.seqN ?_
        refine WC.condF (k := ?_)
        refine WC.exit ?_
        refine WX.seqE ?_
        refine WX.seqE ?_
        refine WX.blockE ?_
        refine WX.seqN ?_
        refine WC.seq ?_
        refine WC.region ?_
        refine WL.op (d := 95) (.pointer (some ⟨b15, 0, none⟩)) (k := ?_)
        obtain ⟨r178, hs179⟩ : ∃ r, scanGo 0 6 (8 : Int).toNat (⟨sd, [], 0, re⟩ : GDisk) [] = ((ys), 0, ⟨sd, [], 0, r⟩) := lay_s6 hly
        refine WL.callG (d := 96) (f := 33) (args := #[.pointer (some ⟨b15, 0, none⟩), .int .u64 6]) (wlScan_good (e := 6) (xs := (ys)) hb99 hb95 n97 (by omega) (by omega) (by omega) (by omega) (by omega) hs179) (k := fun e_ w180 h_ => ?_)
        obtain ⟨A181, c182, rfl, hb183, ho184, ol185, hd186, n187, k188⟩ := h_
        refine ⟨_, rfl, ?_⟩
        have ol189 := fun i h => Nat.le_trans K.size (ol185 i h)
        replace K := K.trans' k188 (fun i hi e => e.elim (fun e => absurd (e ▸ hi) (Nat.not_lt.2 z19)) (fun e => (lk96 i e).elim (fun h => h.elim) (fun h => absurd hi (Nat.not_lt.2 h))))
        replace hb100 := hb100.keeps k188 (fun i hi h => h.elim (fun h => (hb100.offT hb99 (by decide)) (h ▸ hi)) (n98 i hi))
        clear hb99
        clear hb95 ol185
        refine WL.op (d := 94) (.tuple #[.slice A181 (((ys)).length) c182, .int .i64 0]) (k := ?_)
        refine WL.op (d := 97) (.slice A181 (((ys)).length) c182) (k := ?_)
        refine WL.op (d := 98) (.int .i64 0) (k := ?_)
        refine WL.op (d := 14) (.slice A181 (((ys)).length) c182) (k := ?_)
        refine WL.op (d := 15) (.int .i64 0) (k := ?_)
        refine WL.nil ?_
        refine WX.seqN ?_
        refine WC.seq ?_
        refine WC.region ?_
        refine WL.op (d := 99) (.slice A181 (((ys)).length) c182) (k := ?_)
        refine WL.op (d := 100) (.slice Bo ys.length bo) (k := ?_)
        refine WL.callG (d := 101) (f := 24) (args := #[.slice A181 (((ys)).length) c182, .slice Bo ys.length bo]) (u04Same_s (cp := c182) (cq := bo) (ho184.sl ekStr) (hb100.sl ekStr) (by omega)) (k := fun e_ w190 h_ => ⟨.bool true, h_.1, ?_⟩)
        have k191 := h_.2; clear h_
        replace hd186 := hd186.adds k191
        replace hb183 := k191.heap hb183 id
        replace hb100 := hb100.adds k191
        replace ho184 := ho184.adds k191
        replace K := K.trans (k191.any _)
        refine WL.op (d := 16) (.bool true) (k := ?_)
        refine WL.nil ?_
        refine WX.seqN ?_
        refine WC.seq ?_
        refine WC.region ?_
        refine WL.op (d := 103) (.pointer (some ⟨b15, 0, none⟩)) (k := ?_)
        obtain ⟨r192, hs193⟩ : ∃ r, scanGo 0 5 (8 : Int).toNat (⟨sd, [], 0, r178⟩ : GDisk) [] = ((if List.length ys = 0 then xs else []), 0, ⟨sd, [], 0, r⟩) := lay_s5 hly
        refine WL.callG (d := 104) (f := 33) (args := #[.pointer (some ⟨b15, 0, none⟩), .int .u64 5]) (wlScan_good (e := 5) (xs := (if List.length ys = 0 then xs else [])) hb183 hd186 n97 (by omega) (by omega) (by omega) (by omega) (by omega) hs193) (k := fun e_ w194 h_ => ?_)
        obtain ⟨A195, c196, rfl, hb197, ho198, ol199, hd200, n201, k202⟩ := h_
        refine ⟨_, rfl, ?_⟩
        have ol203 := fun i h => Nat.le_trans K.size (ol199 i h)
        replace K := K.trans' k202 (fun i hi e => e.elim (fun e => absurd (e ▸ hi) (Nat.not_lt.2 z19)) (fun e => (lk96 i e).elim (fun h => h.elim) (fun h => absurd hi (Nat.not_lt.2 h))))
        replace hb100 := hb100.keeps k202 (fun i hi h => h.elim (fun h => (hb100.offT hb183 (by decide)) (h ▸ hi)) (n98 i hi))
        replace ho184 := ho184.keeps k202 (fun i hi h => h.elim (fun h => (ho184.offT hb183 (by decide)) (h ▸ hi)) (n187 i hi))
        clear hb183
        clear hd186 ol199
        refine WL.op (d := 102) (.tuple #[.slice A195 (((if List.length ys = 0 then xs else [])).length) c196, .int .i64 0]) (k := ?_)
        refine WL.op (d := 105) (.slice A195 (((if List.length ys = 0 then xs else [])).length) c196) (k := ?_)
        refine WL.op (d := 106) (.int .i64 0) (k := ?_)
        refine WL.op (d := 17) (.slice A195 (((if List.length ys = 0 then xs else [])).length) c196) (k := ?_)
        refine WL.op (d := 18) (.int .i64 0) (k := ?_)
        refine WL.nil ?_
        refine WX.seqN ?_
        refine WC.seq ?_
        refine WC.region ?_
        refine WL.op (d := 107) (.slice A195 (((if List.length ys = 0 then xs else [])).length) c196) (k := ?_)
        refine WL.op (d := 108) (.int .i64 (((if List.length ys = 0 then xs else [])).length : Int)) (k := ?_)
        refine WL.op (d := 109) (.slice Ao xs.length co) (k := ?_)
        refine WL.op (d := 110) (.int .i64 (xs.length : Int)) (k := ?_)
        refine WL.op (d := 111) (.bool ((((if List.length ys = 0 then xs else [])).length : Int) == (xs.length : Int))) (k := ?_)
        refine WL.op (d := 19) (.bool ((((if List.length ys = 0 then xs else [])).length : Int) == (xs.length : Int))) (k := ?_)
        refine WL.nil ?_
        refine WX.seqN ?_
        refine WC.seq ?_
        refine WC.seq ?_
        refine WC.region ?_
        refine WL.op (d := 112) (.slice Bo ys.length bo) (k := ?_)
        refine WL.op (d := 113) (.int .i64 (ys.length : Int)) (k := ?_)
        refine WL.op (d := 114) (.bool (decide ((ys.length : Int) > 0))) (k := ?_)
        refine WL.nil ?_
        refine WX.seqN ?_
        refine WC.cond (b := decide ((ys.length : Int) > 0)) (ht := fun h204 => ?_) (hf := fun h204 => ?_)
        · have ph204 := of_decide_eq_true h204
          refine WC.region ?_
          refine WL.op (d := 115) (.slice A195 (((if List.length ys = 0 then xs else [])).length) c196) (k := ?_)
          refine WL.op (d := 116) (.int .i64 (((if List.length ys = 0 then xs else [])).length : Int)) (k := ?_)
          refine WL.op (d := 117) (.bool ((((if List.length ys = 0 then xs else [])).length : Int) == 0)) (k := ?_)
          refine WL.op (d := 19) (.bool ((((if List.length ys = 0 then xs else [])).length : Int) == 0)) (k := ?_)
          refine WL.nil ?_
          refine WX.seqN ?_
          refine WC.seq ?_
          refine WC.region ?_
          refine WL.op (d := 118) (.bool true) (k := ?_)
          refine WL.op (d := 119) (.bool true) (k := ?_)
          refine WL.op (d := 120) (.int .i64 0) (k := ?_)
          refine WL.op (d := 121) (.bool true) (k := ?_)
          refine WL.op (d := 122) (.bool true) (k := ?_)
          refine WL.op (d := 123) (.bool true) (k := ?_)
          refine WL.op (d := 124) (.bool true) (k := ?_)
          refine WL.op (d := 125) (.bool true) (k := ?_)
          refine WL.op (d := 126) (.bool true) (k := ?_)
          refine WL.op (d := 127) (.int .i64 0) (k := ?_)
          refine WL.op (d := 128) (.bool true) (k := ?_)
          refine WL.op (d := 129) (.bool true) (k := ?_)
          refine WL.op (d := 130) (.bool true) (k := ?_)
          refine WL.op (d := 131) (.bool ((((if List.length ys = 0 then xs else [])).length : Int) == 0)) (k := ?_)
          refine WL.op (d := 132) (.bool ((((if List.length ys = 0 then xs else [])).length : Int) == 0)) (k := ?_)
          refine WL.op (d := 4) (.bool ((((if List.length ys = 0 then xs else [])).length : Int) == 0)) (k := ?_)
          refine WL.nil ?_
          refine WX.seqN ?_
          refine WC.ret ?_
          refine WX.ret (rs := [.tmp 4]) [.bool ((((if List.length ys = 0 then xs else [])).length : Int) == 0)] (.bool ((((if List.length ys = 0 then xs else [])).length : Int) == 0)) ⟨(by kernel_rfl), trivial⟩ (k := ?_)
          exact ⟨ret_bool (beq_iff_eq.2 (by rw [if_neg (by omega)]; rfl)), K⟩
        · have ph204 := of_decide_eq_false h204
          refine WC.skip ?_
          refine WX.seqN ?_
          refine WC.seq ?_
          refine WC.region ?_
          refine WL.op (d := 118) (.bool true) (k := ?_)
          refine WL.op (d := 119) (.bool true) (k := ?_)
          refine WL.op (d := 120) (.int .i64 0) (k := ?_)
          refine WL.op (d := 121) (.bool true) (k := ?_)
          refine WL.op (d := 122) (.bool true) (k := ?_)
          refine WL.op (d := 123) (.bool true) (k := ?_)
          refine WL.op (d := 124) (.bool true) (k := ?_)
          refine WL.op (d := 125) (.bool true) (k := ?_)
          refine WL.op (d := 126) (.bool true) (k := ?_)
          refine WL.op (d := 127) (.int .i64 0) (k := ?_)
          refine WL.op (d := 128) (.bool true) (k := ?_)
          refine WL.op (d := 129) (.bool true) (k := ?_)
          refine WL.op (d := 130) (.bool true) (k := ?_)
          refine WL.op (d := 131) (.bool ((((if List.length ys = 0 then xs else [])).length : Int) == (xs.length : Int))) (k := ?_)
          refine WL.op (d := 132) (.bool ((((if List.length ys = 0 then xs else [])).length : Int) == (xs.length : Int))) (k := ?_)
          refine WL.op (d := 4) (.bool ((((if List.length ys = 0 then xs else [])).length : Int) == (xs.length : Int))) (k := ?_)
          refine WL.nil ?_
          refine WX.seqN ?_
          refine WC.ret ?_
          refine WX.ret (rs := [.tmp 4]) [.bool ((((if List.length ys = 0 then xs else [])).length : Int) == (xs.length : Int))] (.bool ((((if List.length ys = 0 then xs else [])).length : Int) == (xs.length : Int))) ⟨(by kernel_rfl), trivial⟩ (k := ?_)
          exact ⟨ret_bool (beq_iff_eq.2 (by rw [if_pos (by omega)])), K⟩
  · have ph32 := of_decide_eq_false h32
    refine WL.rw (t := 36) (v := .bool false) (congrArg Value.bool h32) (k := ?_)
    refine WL.skip (d := 37) (k := ?_)
    refine WL.skip (d := 38) (k := ?_)
    refine WL.op (d := 39) (.bool false) (k := ?_)
    refine WL.nil ?_
    refine WX.seqN ?_
    refine WC.condF (k := ?_)
    refine WC.exit ?_
    refine WX.seqE ?_
    refine WX.seqE ?_
    refine WX.blockE ?_
    refine WX.seqN ?_
    refine WC.seq ?_
    refine WC.region ?_
    refine WL.op (d := 58) (.pointer (some ⟨b15, 0, none⟩)) (k := ?_)
    obtain ⟨r205, hs206⟩ : ∃ r, scanGo 0 6 (8 : Int).toNat (⟨sc, [], 0, rd⟩ : GDisk) [] = (([] : List (List UInt8)), 0, ⟨sc, [], 0, r⟩) := lay_s6 hlx
    refine WL.callG (d := 59) (f := 33) (args := #[.pointer (some ⟨b15, 0, none⟩), .int .u64 6]) (wlScan_good (e := 6) (xs := ([] : List (List UInt8))) hb29 hb25 n27 (by omega) (by omega) (by omega) (by omega) (by omega) hs206) (k := fun e_ w207 h_ => ?_)
    obtain ⟨A208, c209, rfl, hb210, ho211, ol212, hd213, n214, k215⟩ := h_
    refine ⟨_, rfl, ?_⟩
    have ol216 := fun i h => Nat.le_trans K.size (ol212 i h)
    have ln217 : List.length ([] : List (List UInt8)) = 0 := rfl
    replace K := K.trans' k215 (fun i hi e => e.elim (fun e => absurd (e ▸ hi) (Nat.not_lt.2 z19)) (fun e => (lk26 i e).elim (fun h => h.elim) (fun h => absurd hi (Nat.not_lt.2 h))))
    replace hb30 := hb30.keeps k215 (fun i hi h => h.elim (fun h => (hb30.offT hb29 (by decide)) (h ▸ hi)) (n28 i hi))
    clear hb29
    clear hb25 ol212
    refine WL.op (d := 57) (.tuple #[.slice A208 0 c209, .int .i64 0]) (k := ?_)
    refine WL.op (d := 60) (.slice A208 0 c209) (k := ?_)
    refine WL.op (d := 61) (.int .i64 0) (k := ?_)
    refine WL.op (d := 10) (.slice A208 0 c209) (k := ?_)
    refine WL.op (d := 11) (.int .i64 0) (k := ?_)
    refine WL.nil ?_
    refine WX.seqN ?_
    refine WC.seq ?_
    refine WC.seq ?_
    refine WC.region ?_
    refine WL.op (d := 62) (.int .i64 0) (k := ?_)
    refine WL.op (d := 63) (.bool false) (k := ?_)
    refine WL.op (d := 64) (.bool false) (k := ?_)
    refine WL.op (d := 65) (.slice A208 0 c209) (k := ?_)
    refine WL.op (d := 66) (.int .i64 0) (k := ?_)
    refine WL.op (d := 67) (.bool false) (k := ?_)
    refine WL.op (d := 68) (.bool false) (k := ?_)
    refine WL.nil ?_
    refine WX.seqN ?_
    refine WC.condF (k := ?_)
    refine WC.skip ?_
    refine WX.seqN ?_
    refine WC.seq ?_
    refine WC.region ?_
    refine WL.op (d := 12) (.slice none 0 0) (k := ?_)
    refine WL.nil ?_
    refine WX.seqN ?_
    refine WC.seq ?_
    refine WC.seq ?_
    refine WC.region ?_
    refine WL.op (d := 13) (.int .i64 0) (k := ?_)
    refine WL.nil ?_
    refine WX.seqN ?_
    refine WC.block ?_
    refine WC.loop (ι := Int × (List (List UInt8)) × (Option Addr) × Nat × (List (List UInt8)) × Int × (Nat → Prop)) (fun (⟨j, ys, Bo, bo, sd, re, Sj⟩ : Int × (List (List UInt8)) × (Option Addr) × Nat × (List (List UInt8)) × Int × (Nat → Prop)) => [(0, .slice A as_.length ca), (1, .slice B bs.length cb), (20, .bool true), (5, .bool true), (21, .pointer (some ⟨b4, 0, none⟩)), (6, .pointer (some ⟨b4, 0, none⟩)), (22, .pointer (some ⟨b4, 0, none⟩)), (23, .pointer (some ⟨b15, 0, none⟩)), (7, .pointer (some ⟨b15, 0, none⟩)), (24, .pointer (some ⟨b4, 0, none⟩)), (25, .bool false), (26, .bool false), (27, .pointer (some ⟨b15, 0, none⟩)), (28, .bool false), (29, .bool false), (30, .pointer (some ⟨b15, 0, none⟩)), (9, .int .i64 i), (8, .slice Ao xs.length co), (32, .int .i64 i), (33, .slice A as_.length ca), (34, .int .i64 (as_.length : Int)), (35, .bool (decide (i < (as_.length : Int)))), (36, .bool false), (39, .bool false), (58, .pointer (some ⟨b15, 0, none⟩)), (59, .tuple #[.slice A208 0 c209, .int .i64 0]), (57, .tuple #[.slice A208 0 c209, .int .i64 0]), (60, .slice A208 0 c209), (61, .int .i64 0), (10, .slice A208 0 c209), (11, .int .i64 0), (62, .int .i64 0), (63, .bool false), (64, .bool false), (65, .slice A208 0 c209), (66, .int .i64 0), (67, .bool false), (68, .bool false), (13, .int .i64 j), (12, .slice Bo ys.length bo)]) (fun (⟨j, ys, Bo, bo, sd, re, Sj⟩ : Int × (List (List UInt8)) × (Option Addr) × Nat × (List (List UInt8)) × Int × (Nat → Prop)) (w_ : World) => (Keeps (fun _ => False) w w_) ∧ (DiskAt Sj b4 (⟨sd, [], 0, re⟩ : GDisk) w_) ∧ (∀ k, Sj k → (fun _ => False) k ∨ w.heap.size ≤ k) ∧ (¬ Sj b15) ∧ (∀ i, blk Bo = some i → ¬ Sj i) ∧ (w_.heap[b15]? = some (.cells #[.pointer (some ⟨b4, 0, none⟩), .int .i64 0, .int .i64 8, .iface 97 (.agg #[.int .u64 6, .int .i64 (ys.length : Int)])] 95 (0, 0))) ∧ (OwAt strC 1 9 Bo bo ys w_) ∧ (∀ i, blk Bo = some i → w.heap.size ≤ i) ∧ (0 ≤ j) ∧ ((ys.length : Int) = j) ∧ (j ≤ 8) ∧ (lay sd xs ys)) (fun (⟨j, ys, Bo, bo, sd, re, Sj⟩ : Int × (List (List UInt8)) × (Option Addr) × Nat × (List (List UInt8)) × Int × (Nat → Prop)) => (8 - j).toNat) (0, [], none, 0, sc, r205, Si) ⟨(by kernel_rfl), (by kernel_rfl), (by kernel_rfl), (by kernel_rfl), (by kernel_rfl), (by kernel_rfl), (by kernel_rfl), (by kernel_rfl), (by kernel_rfl), (by kernel_rfl), (by kernel_rfl), (by kernel_rfl), (by kernel_rfl), (by kernel_rfl), (by kernel_rfl), (by kernel_rfl), (by kernel_rfl), (by kernel_rfl), (by kernel_rfl), (by kernel_rfl), (by kernel_rfl), (by kernel_rfl), (by kernel_rfl), (by kernel_rfl), (by kernel_rfl), (by kernel_rfl), (by kernel_rfl), (by kernel_rfl), (by kernel_rfl), (by kernel_rfl), (by kernel_rfl), (by kernel_rfl), (by kernel_rfl), (by kernel_rfl), (by kernel_rfl), (by kernel_rfl), (by kernel_rfl), (by kernel_rfl), (by kernel_rfl), (by kernel_rfl), trivial⟩ ⟨K, hd213, lk26, n27, (fun i hi => by simp [blk] at hi), hb210, OwAt.nil, (by simp [blk]), Int.le_refl 0, rfl, (by decide), hlx⟩ ?_
    rintro ⟨j, ys, Bo, bo, sd, re, Sj⟩ w218 ⟨K, hb219, lk220, n221, n222, hb223, hb224, ol225, i0, iq, i8, hly⟩
    have ls_ := hly.1
    refine WC.seq ?_
    refine WC.seq ?_
    refine WC.region ?_
    refine WL.op (d := 69) (.int .i64 j) (k := ?_)
    refine WL.op (d := 70) (.slice B bs.length cb) (k := ?_)
    refine WL.op (d := 71) (.int .i64 (bs.length : Int)) (k := ?_)
    refine WL.op (d := 72) (.bool (decide (j < (bs.length : Int)))) (k := ?_)
    refine WL.op (d := 73) (.bool (decide (j < (bs.length : Int)))) (k := ?_)
    refine bsplit (decide (j < (bs.length : Int))) (fun h226 => ?_) (fun h226 => ?_)
    · have ph226 := of_decide_eq_true h226
      refine WL.rw (t := 73) (v := .bool true) (congrArg Value.bool h226) (k := ?_)
      refine WL.op (d := 74) (.int .i64 j) (k := ?_)
      refine WL.op (d := 75) (.bool (decide (j < 8))) (k := ?_)
      refine WL.op (d := 76) (.bool (decide (j < 8))) (k := ?_)
      refine WL.nil ?_
      refine WX.seqN ?_
      refine WC.cond (b := decide (j < 8)) (ht := fun h227 => ?_) (hf := fun h227 => ?_)
      · have ph227 := of_decide_eq_true h227
        refine WC.skip ?_
        refine WX.seqN ?_
        refine WC.seq ?_
        refine WC.block ?_
        refine WC.seq ?_
        refine WC.region ?_
        refine WL.op (d := 79) (.slice Bo ys.length bo) (k := ?_)
        refine WL.op (d := 80) (.slice B bs.length cb) (k := ?_)
        refine WL.op (d := 81) (.int .i64 j) (k := ?_)
        obtain ⟨b228, o229, r230, hr231, hA232, he233⟩ := SlAt.at hB (i := j) (by omega) (by omega)
        refine WL.rw (t := 80) (v := .slice (some ⟨b228, o229, none⟩) bs.length cb) (congrArg (fun a => Value.slice a bs.length cb) hA232) (k := ?_)
        have ll234 := hBm _ (List.mem_of_getElem? hr231)
        refine WL.idx (T := 44) (E := 9) (m := 1) (b := b228) (o := o229) (len := bs.length) (cap := cb) (i := j) (kk := .i64) (d := 82) (by omega) (by omega) (k := ?_)
        refine WL.rw (t := 80) (v := .slice B bs.length cb) (congrArg (fun a => Value.slice a bs.length cb) (Eq.symm hA232)) (k := ?_)
        refine WL.load (v := .string ⟨(r230).toArray⟩) ((he233.adds K).ld0 (T := 9)) (k := ?_)
        refine WL.callG (d := 84) (f := 31) (args := #[.string ⟨(r230).toArray⟩, .int .i64 43]) (l07short_c r230 43 (by omega) (by show List.length r230 ≤ _; first | omega | (simp; done) | (simp; omega)) w218) (k := fun e_ w235 h_ => ?_)
        obtain ⟨l236, hl237, rfl, k238⟩ := h_
        refine ⟨_, rfl, ?_⟩
        replace hb219 := hb219.adds k238
        replace hb223 := k238.heap hb223 id
        replace hb224 := hb224.adds k238
        replace K := K.trans (k238.any _)
        refine WL.newF (d := 85) (T := 9) #[.string ⟨(l236).toArray⟩] (fun b => .slice (some ⟨b, 0, none⟩) 1 1) (k := fun b239 w240 g241 hb242 k243 => ?_)
        have z244 := Nat.le_trans K.size g241
        have n245 : ¬ Sj b239 := fun h => absurd (hb219.lt _ h) (Nat.not_lt.2 g241)
        have n246 : b15 ≠ b239 := Nat.ne_of_lt (Nat.lt_of_lt_of_le (lt_of_heap hb223) g241)
        have n247 := OwAt.off_new hb224 g241
        replace hb219 := hb219.adds k243
        replace hb223 := k243.heap hb223 id
        replace hb224 := hb224.adds k243
        replace K := K.trans (k243.any _)
        refine WL.append (d := 86) (T := 44) (cl := strC) (xs := ys) (ys := [l236]) (c := 1) ekStr hb224 (SlAt.of_lit (ys := [l236]) ekStr hb242 (by kernel_rfl)) (by first | omega | (simp; omega)) (k := fun A248 c249 w250 ho251 k252 n253 => ?_)
        have ol254 := olink_step ol225 K n253
        have n255 := fp_step n253 n222 hb219.lt
        replace hb219 := hb219.keeps k252 (fun i hi e => n222 i e hi)
        replace hb223 := k252.heap hb223 (hb224.offT hb223 (by decide))
        replace K := K.trans' k252 (fun i hi e => absurd hi (Nat.not_lt.2 (ol225 i e)))
        clear hb224
        refine WL.op (d := 12) (.slice A248 ((ys ++ [l236]).length) c249) (k := ?_)
        refine WL.nil ?_
        refine WX.seqN ?_
        refine WC.seq ?_
        have la_ : List.length (ys ++ [l236]) = ys.length + 1 := by simp
        refine WC.region ?_
        refine WL.op (d := 87) (.pointer (some ⟨b15, 0, none⟩)) (k := ?_)
        refine WL.op (d := 88) (.slice A248 ((ys ++ [l236]).length) c249) (k := ?_)
        refine WL.op (d := 89) (.int .i64 j) (k := ?_)
        obtain ⟨b256, o257, r258, hr259, hA260, he261⟩ := SlAt.at (ho251.sl ekStr) (i := j) (by omega) (by omega)
        refine WL.rw (t := 88) (v := .slice (some ⟨b256, o257, none⟩) ((ys ++ [l236]).length) c249) (congrArg (fun a => Value.slice a ((ys ++ [l236]).length) c249) hA260) (k := ?_)
        have w7e_ : r258 = l236 := (w7last (by omega) hr259).symm
        have w7f_ : List.length r258 = List.length l236 := by rw [w7e_]
        refine WL.idx (T := 44) (E := 9) (m := 1) (b := b256) (o := o257) (len := (ys ++ [l236]).length) (cap := c249) (i := j) (kk := .i64) (d := 90) (by omega) (by omega) (k := ?_)
        refine WL.rw (t := 88) (v := .slice A248 ((ys ++ [l236]).length) c249) (congrArg (fun a => Value.slice a ((ys ++ [l236]).length) c249) (Eq.symm hA260)) (k := ?_)
        refine WL.load (v := .string ⟨(r258).toArray⟩) (he261.ld0 (T := 9)) (k := ?_)
        refine bsplit (decide ((ys.length : Int) < 8)) (fun h262 => ?_) (fun h262 => ?_)
        · have ph262 := of_decide_eq_true h262
          refine WL.callG (d := 92) (f := 32) (args := #[.pointer (some ⟨b15, 0, none⟩), .string ⟨(r258).toArray⟩]) (wlAppend_good (l := r258) (e := 6) (r := (ys.length : Int)) hb223 hb219 n221 (by show List.length r258 ≤ 43; first | omega | (simp; done) | (simp; omega)) (by omega) (by omega) (by omega) (by omega) (by omega) (by omega) (by omega)) (k := fun e_ w263 h_ => ?_)
          obtain ⟨S264, rfl, hb265, hd266, lk267, n268, k269⟩ := h_
          refine ⟨_, rfl, ?_⟩
          have n270 : ∀ i, blk A248 = some i → ¬ S264 i := fun i hi h => (lk267 _ h).elim (n255 i hi) (fun h2 => absurd (ho251.lt i hi) (Nat.not_lt.2 h2))
          have lk271 := lk_step lk220 lk267 K
          replace K := K.trans' k269 (fun i hi e => e.elim (fun e => absurd (e ▸ hi) (Nat.not_lt.2 z19)) (fun e => (lk220 i e).elim (fun h => h.elim) (fun h => absurd hi (Nat.not_lt.2 h))))
          replace ho251 := ho251.keeps k269 (fun i hi h => h.elim (fun h => (ho251.offT hb223 (by decide)) (h ▸ hi)) (n255 i hi))
          clear hb223
          clear hb219
          change DiskAt S264 b4 (⟨List.set sd (0 + (ys.length : Int)).toNat (makeS r258 6 (ys.length : Int).toNat), [], 0, re⟩ : GDisk) w263 at hd266
          have ln272 : (List.set sd (0 + (ys.length : Int)).toNat (makeS r258 6 (ys.length : Int).toNat)).length = List.length sd := List.length_set ..
          refine WL.op (d := 93) (.bool false) (k := ?_)
          refine WL.nil ?_
          refine WX.seqN ?_
          refine WC.condF (k := ?_)
          refine WC.skip ?_
          refine WX.blockN ?_
          refine WX.seqN ?_
          refine WC.region ?_
          refine WL.op (d := 77) (.int .i64 j) (k := ?_)
          refine WL.opE (d := 78) (.int .i64 (IntKind.i64.wrap (j + 1))) (v := .int .i64 (j + 1)) (congrArg (Value.int .i64) (IntWalk.i64_in _ (by omega))) (k := ?_)
          refine WL.op (d := 13) (.int .i64 (j + 1)) (k := ?_)
          refine WL.nil ?_
          rw [show (ys.length : Int) + 1 = (List.length (ys ++ [l236]) : Int) from by simp] at hb265
          refine WX.round (j + 1, ys ++ [l236], A248, c249, List.set sd (0 + (ys.length : Int)).toNat (makeS r258 6 (ys.length : Int).toNat), re, S264) (by show (8 - (j + 1)).toNat < (8 - j).toNat; omega) ⟨(by kernel_rfl), (by kernel_rfl), (by kernel_rfl), (by kernel_rfl), (by kernel_rfl), (by kernel_rfl), (by kernel_rfl), (by kernel_rfl), (by kernel_rfl), (by kernel_rfl), (by kernel_rfl), (by kernel_rfl), (by kernel_rfl), (by kernel_rfl), (by kernel_rfl), (by kernel_rfl), (by kernel_rfl), (by kernel_rfl), (by kernel_rfl), (by kernel_rfl), (by kernel_rfl), (by kernel_rfl), (by kernel_rfl), (by kernel_rfl), (by kernel_rfl), (by kernel_rfl), (by kernel_rfl), (by kernel_rfl), (by kernel_rfl), (by kernel_rfl), (by kernel_rfl), (by kernel_rfl), (by kernel_rfl), (by kernel_rfl), (by kernel_rfl), (by kernel_rfl), (by kernel_rfl), (by kernel_rfl), (by kernel_rfl), (by kernel_rfl), trivial⟩ ⟨K, hd266, lk271, n268, n270, hb265, ho251, ol254, (by omega), (by simp; omega), (by omega), (by subst w7e_; have e_ : (0 + (ys.length : Int)).toNat = ys.length := (by omega); rw [e_, Int.toNat_natCast]; exact lay_y hly (by omega) (by omega))⟩
        · have ph262 := of_decide_eq_false h262
          refine WL.callG (d := 92) (f := 32) (args := #[.pointer (some ⟨b15, 0, none⟩), .string ⟨(r258).toArray⟩]) (wlAppend_full (l := r258) hb223 hb219 n221 (by show List.length r258 ≤ 43; first | omega | (simp; done) | (simp; omega)) (by omega)) (k := fun e_ w273 h_ => ⟨.int .i64 22, h_.1, ?_⟩)
          have k274 := h_.2; clear h_
          replace hb219 := hb219.adds k274
          replace hb223 := k274.heap hb223 id
          replace ho251 := ho251.adds k274
          replace he261 := he261.adds k274
          replace K := K.trans (k274.any _)
          refine WL.op (d := 93) (.bool true) (k := ?_)
          refine WL.nil ?_
          refine WX.seqN ?_
          refine WC.condT (k := ?_)
          refine WC.seq ?_
          refine WC.region ?_
          refine WL.op (d := 4) (.bool false) (k := ?_)
          refine WL.nil ?_
          refine WX.seqN ?_
          refine WC.ret ?_
          refine WX.blockR ?_
          refine WX.seqR ?_
          refine WX.seqR ?_
          refine WX.blockR ?_
          refine WX.seqR ?_
          refine WX.ret (rs := [.tmp 4]) [.bool false] (.bool false) ⟨(by kernel_rfl), trivial⟩ (k := ?_)
          exfalso; omega
      · have ph227 := of_decide_eq_false h227
        refine WC.exit ?_
        refine WX.seqE ?_
        refine WX.seqE ?_
        refine WX.blockE ?_
        refine WX.seqN ?_
        refine WC.seq ?_
        refine WC.region ?_
        refine WL.op (d := 95) (.pointer (some ⟨b15, 0, none⟩)) (k := ?_)
        obtain ⟨r275, hs276⟩ : ∃ r, scanGo 0 6 (8 : Int).toNat (⟨sd, [], 0, re⟩ : GDisk) [] = ((ys), 0, ⟨sd, [], 0, r⟩) := lay_s6 hly
        refine WL.callG (d := 96) (f := 33) (args := #[.pointer (some ⟨b15, 0, none⟩), .int .u64 6]) (wlScan_good (e := 6) (xs := (ys)) hb223 hb219 n221 (by omega) (by omega) (by omega) (by omega) (by omega) hs276) (k := fun e_ w277 h_ => ?_)
        obtain ⟨A278, c279, rfl, hb280, ho281, ol282, hd283, n284, k285⟩ := h_
        refine ⟨_, rfl, ?_⟩
        have ol286 := fun i h => Nat.le_trans K.size (ol282 i h)
        replace K := K.trans' k285 (fun i hi e => e.elim (fun e => absurd (e ▸ hi) (Nat.not_lt.2 z19)) (fun e => (lk220 i e).elim (fun h => h.elim) (fun h => absurd hi (Nat.not_lt.2 h))))
        replace hb224 := hb224.keeps k285 (fun i hi h => h.elim (fun h => (hb224.offT hb223 (by decide)) (h ▸ hi)) (n222 i hi))
        clear hb223
        clear hb219 ol282
        refine WL.op (d := 94) (.tuple #[.slice A278 (((ys)).length) c279, .int .i64 0]) (k := ?_)
        refine WL.op (d := 97) (.slice A278 (((ys)).length) c279) (k := ?_)
        refine WL.op (d := 98) (.int .i64 0) (k := ?_)
        refine WL.op (d := 14) (.slice A278 (((ys)).length) c279) (k := ?_)
        refine WL.op (d := 15) (.int .i64 0) (k := ?_)
        refine WL.nil ?_
        refine WX.seqN ?_
        refine WC.seq ?_
        refine WC.region ?_
        refine WL.op (d := 99) (.slice A278 (((ys)).length) c279) (k := ?_)
        refine WL.op (d := 100) (.slice Bo ys.length bo) (k := ?_)
        refine WL.callG (d := 101) (f := 24) (args := #[.slice A278 (((ys)).length) c279, .slice Bo ys.length bo]) (u04Same_s (cp := c279) (cq := bo) (ho281.sl ekStr) (hb224.sl ekStr) (by omega)) (k := fun e_ w287 h_ => ⟨.bool true, h_.1, ?_⟩)
        have k288 := h_.2; clear h_
        replace hd283 := hd283.adds k288
        replace hb280 := k288.heap hb280 id
        replace hb224 := hb224.adds k288
        replace ho281 := ho281.adds k288
        replace K := K.trans (k288.any _)
        refine WL.op (d := 16) (.bool true) (k := ?_)
        refine WL.nil ?_
        refine WX.seqN ?_
        refine WC.seq ?_
        refine WC.region ?_
        refine WL.op (d := 103) (.pointer (some ⟨b15, 0, none⟩)) (k := ?_)
        obtain ⟨r289, hs290⟩ : ∃ r, scanGo 0 5 (8 : Int).toNat (⟨sd, [], 0, r275⟩ : GDisk) [] = ((if List.length ys = 0 then xs else []), 0, ⟨sd, [], 0, r⟩) := lay_s5 hly
        refine WL.callG (d := 104) (f := 33) (args := #[.pointer (some ⟨b15, 0, none⟩), .int .u64 5]) (wlScan_good (e := 5) (xs := (if List.length ys = 0 then xs else [])) hb280 hd283 n221 (by omega) (by omega) (by omega) (by omega) (by omega) hs290) (k := fun e_ w291 h_ => ?_)
        obtain ⟨A292, c293, rfl, hb294, ho295, ol296, hd297, n298, k299⟩ := h_
        refine ⟨_, rfl, ?_⟩
        have ol300 := fun i h => Nat.le_trans K.size (ol296 i h)
        replace K := K.trans' k299 (fun i hi e => e.elim (fun e => absurd (e ▸ hi) (Nat.not_lt.2 z19)) (fun e => (lk220 i e).elim (fun h => h.elim) (fun h => absurd hi (Nat.not_lt.2 h))))
        replace hb224 := hb224.keeps k299 (fun i hi h => h.elim (fun h => (hb224.offT hb280 (by decide)) (h ▸ hi)) (n222 i hi))
        replace ho281 := ho281.keeps k299 (fun i hi h => h.elim (fun h => (ho281.offT hb280 (by decide)) (h ▸ hi)) (n284 i hi))
        clear hb280
        clear hd283 ol296
        refine WL.op (d := 102) (.tuple #[.slice A292 (((if List.length ys = 0 then xs else [])).length) c293, .int .i64 0]) (k := ?_)
        refine WL.op (d := 105) (.slice A292 (((if List.length ys = 0 then xs else [])).length) c293) (k := ?_)
        refine WL.op (d := 106) (.int .i64 0) (k := ?_)
        refine WL.op (d := 17) (.slice A292 (((if List.length ys = 0 then xs else [])).length) c293) (k := ?_)
        refine WL.op (d := 18) (.int .i64 0) (k := ?_)
        refine WL.nil ?_
        refine WX.seqN ?_
        refine WC.seq ?_
        refine WC.region ?_
        refine WL.op (d := 107) (.slice A292 (((if List.length ys = 0 then xs else [])).length) c293) (k := ?_)
        refine WL.op (d := 108) (.int .i64 (((if List.length ys = 0 then xs else [])).length : Int)) (k := ?_)
        refine WL.op (d := 109) (.slice Ao xs.length co) (k := ?_)
        refine WL.op (d := 110) (.int .i64 (xs.length : Int)) (k := ?_)
        refine WL.op (d := 111) (.bool ((((if List.length ys = 0 then xs else [])).length : Int) == (xs.length : Int))) (k := ?_)
        refine WL.op (d := 19) (.bool ((((if List.length ys = 0 then xs else [])).length : Int) == (xs.length : Int))) (k := ?_)
        refine WL.nil ?_
        refine WX.seqN ?_
        refine WC.seq ?_
        refine WC.seq ?_
        refine WC.region ?_
        refine WL.op (d := 112) (.slice Bo ys.length bo) (k := ?_)
        refine WL.op (d := 113) (.int .i64 (ys.length : Int)) (k := ?_)
        refine WL.op (d := 114) (.bool (decide ((ys.length : Int) > 0))) (k := ?_)
        refine WL.nil ?_
        refine WX.seqN ?_
        refine WC.cond (b := decide ((ys.length : Int) > 0)) (ht := fun h301 => ?_) (hf := fun h301 => ?_)
        · have ph301 := of_decide_eq_true h301
          refine WC.region ?_
          refine WL.op (d := 115) (.slice A292 (((if List.length ys = 0 then xs else [])).length) c293) (k := ?_)
          refine WL.op (d := 116) (.int .i64 (((if List.length ys = 0 then xs else [])).length : Int)) (k := ?_)
          refine WL.op (d := 117) (.bool ((((if List.length ys = 0 then xs else [])).length : Int) == 0)) (k := ?_)
          refine WL.op (d := 19) (.bool ((((if List.length ys = 0 then xs else [])).length : Int) == 0)) (k := ?_)
          refine WL.nil ?_
          refine WX.seqN ?_
          refine WC.seq ?_
          refine WC.region ?_
          refine WL.op (d := 118) (.bool true) (k := ?_)
          refine WL.op (d := 119) (.bool true) (k := ?_)
          refine WL.op (d := 120) (.int .i64 0) (k := ?_)
          refine WL.op (d := 121) (.bool true) (k := ?_)
          refine WL.op (d := 122) (.bool true) (k := ?_)
          refine WL.op (d := 123) (.bool true) (k := ?_)
          refine WL.op (d := 124) (.bool true) (k := ?_)
          refine WL.op (d := 125) (.bool true) (k := ?_)
          refine WL.op (d := 126) (.bool true) (k := ?_)
          refine WL.op (d := 127) (.int .i64 0) (k := ?_)
          refine WL.op (d := 128) (.bool true) (k := ?_)
          refine WL.op (d := 129) (.bool true) (k := ?_)
          refine WL.op (d := 130) (.bool true) (k := ?_)
          refine WL.op (d := 131) (.bool ((((if List.length ys = 0 then xs else [])).length : Int) == 0)) (k := ?_)
          refine WL.op (d := 132) (.bool ((((if List.length ys = 0 then xs else [])).length : Int) == 0)) (k := ?_)
          refine WL.op (d := 4) (.bool ((((if List.length ys = 0 then xs else [])).length : Int) == 0)) (k := ?_)
          refine WL.nil ?_
          refine WX.seqN ?_
          refine WC.ret ?_
          refine WX.ret (rs := [.tmp 4]) [.bool ((((if List.length ys = 0 then xs else [])).length : Int) == 0)] (.bool ((((if List.length ys = 0 then xs else [])).length : Int) == 0)) ⟨(by kernel_rfl), trivial⟩ (k := ?_)
          exact ⟨ret_bool (beq_iff_eq.2 (by rw [if_neg (by omega)]; rfl)), K⟩
        · have ph301 := of_decide_eq_false h301
          refine WC.skip ?_
          refine WX.seqN ?_
          refine WC.seq ?_
          refine WC.region ?_
          refine WL.op (d := 118) (.bool true) (k := ?_)
          refine WL.op (d := 119) (.bool true) (k := ?_)
          refine WL.op (d := 120) (.int .i64 0) (k := ?_)
          refine WL.op (d := 121) (.bool true) (k := ?_)
          refine WL.op (d := 122) (.bool true) (k := ?_)
          refine WL.op (d := 123) (.bool true) (k := ?_)
          refine WL.op (d := 124) (.bool true) (k := ?_)
          refine WL.op (d := 125) (.bool true) (k := ?_)
          refine WL.op (d := 126) (.bool true) (k := ?_)
          refine WL.op (d := 127) (.int .i64 0) (k := ?_)
          refine WL.op (d := 128) (.bool true) (k := ?_)
          refine WL.op (d := 129) (.bool true) (k := ?_)
          refine WL.op (d := 130) (.bool true) (k := ?_)
          refine WL.op (d := 131) (.bool ((((if List.length ys = 0 then xs else [])).length : Int) == (xs.length : Int))) (k := ?_)
          refine WL.op (d := 132) (.bool ((((if List.length ys = 0 then xs else [])).length : Int) == (xs.length : Int))) (k := ?_)
          refine WL.op (d := 4) (.bool ((((if List.length ys = 0 then xs else [])).length : Int) == (xs.length : Int))) (k := ?_)
          refine WL.nil ?_
          refine WX.seqN ?_
          refine WC.ret ?_
          refine WX.ret (rs := [.tmp 4]) [.bool ((((if List.length ys = 0 then xs else [])).length : Int) == (xs.length : Int))] (.bool ((((if List.length ys = 0 then xs else [])).length : Int) == (xs.length : Int))) ⟨(by kernel_rfl), trivial⟩ (k := ?_)
          exact ⟨ret_bool (beq_iff_eq.2 (by rw [if_pos (by omega)])), K⟩
    · have ph226 := of_decide_eq_false h226
      refine WL.rw (t := 73) (v := .bool false) (congrArg Value.bool h226) (k := ?_)
      refine WL.skip (d := 74) (k := ?_)
      refine WL.skip (d := 75) (k := ?_)
      refine WL.op (d := 76) (.bool false) (k := ?_)
      refine WL.nil ?_
      refine WX.seqN ?_
      refine WC.condF (k := ?_)
      refine WC.exit ?_
      refine WX.seqE ?_
      refine WX.seqE ?_
      refine WX.blockE ?_
      refine WX.seqN ?_
      refine WC.seq ?_
      refine WC.region ?_
      refine WL.op (d := 95) (.pointer (some ⟨b15, 0, none⟩)) (k := ?_)
      obtain ⟨r302, hs303⟩ : ∃ r, scanGo 0 6 (8 : Int).toNat (⟨sd, [], 0, re⟩ : GDisk) [] = ((ys), 0, ⟨sd, [], 0, r⟩) := lay_s6 hly
      refine WL.callG (d := 96) (f := 33) (args := #[.pointer (some ⟨b15, 0, none⟩), .int .u64 6]) (wlScan_good (e := 6) (xs := (ys)) hb223 hb219 n221 (by omega) (by omega) (by omega) (by omega) (by omega) hs303) (k := fun e_ w304 h_ => ?_)
      obtain ⟨A305, c306, rfl, hb307, ho308, ol309, hd310, n311, k312⟩ := h_
      refine ⟨_, rfl, ?_⟩
      have ol313 := fun i h => Nat.le_trans K.size (ol309 i h)
      replace K := K.trans' k312 (fun i hi e => e.elim (fun e => absurd (e ▸ hi) (Nat.not_lt.2 z19)) (fun e => (lk220 i e).elim (fun h => h.elim) (fun h => absurd hi (Nat.not_lt.2 h))))
      replace hb224 := hb224.keeps k312 (fun i hi h => h.elim (fun h => (hb224.offT hb223 (by decide)) (h ▸ hi)) (n222 i hi))
      clear hb223
      clear hb219 ol309
      refine WL.op (d := 94) (.tuple #[.slice A305 (((ys)).length) c306, .int .i64 0]) (k := ?_)
      refine WL.op (d := 97) (.slice A305 (((ys)).length) c306) (k := ?_)
      refine WL.op (d := 98) (.int .i64 0) (k := ?_)
      refine WL.op (d := 14) (.slice A305 (((ys)).length) c306) (k := ?_)
      refine WL.op (d := 15) (.int .i64 0) (k := ?_)
      refine WL.nil ?_
      refine WX.seqN ?_
      refine WC.seq ?_
      refine WC.region ?_
      refine WL.op (d := 99) (.slice A305 (((ys)).length) c306) (k := ?_)
      refine WL.op (d := 100) (.slice Bo ys.length bo) (k := ?_)
      refine WL.callG (d := 101) (f := 24) (args := #[.slice A305 (((ys)).length) c306, .slice Bo ys.length bo]) (u04Same_s (cp := c306) (cq := bo) (ho308.sl ekStr) (hb224.sl ekStr) (by omega)) (k := fun e_ w314 h_ => ⟨.bool true, h_.1, ?_⟩)
      have k315 := h_.2; clear h_
      replace hd310 := hd310.adds k315
      replace hb307 := k315.heap hb307 id
      replace hb224 := hb224.adds k315
      replace ho308 := ho308.adds k315
      replace K := K.trans (k315.any _)
      refine WL.op (d := 16) (.bool true) (k := ?_)
      refine WL.nil ?_
      refine WX.seqN ?_
      refine WC.seq ?_
      refine WC.region ?_
      refine WL.op (d := 103) (.pointer (some ⟨b15, 0, none⟩)) (k := ?_)
      obtain ⟨r316, hs317⟩ : ∃ r, scanGo 0 5 (8 : Int).toNat (⟨sd, [], 0, r302⟩ : GDisk) [] = ((if List.length ys = 0 then xs else []), 0, ⟨sd, [], 0, r⟩) := lay_s5 hly
      refine WL.callG (d := 104) (f := 33) (args := #[.pointer (some ⟨b15, 0, none⟩), .int .u64 5]) (wlScan_good (e := 5) (xs := (if List.length ys = 0 then xs else [])) hb307 hd310 n221 (by omega) (by omega) (by omega) (by omega) (by omega) hs317) (k := fun e_ w318 h_ => ?_)
      obtain ⟨A319, c320, rfl, hb321, ho322, ol323, hd324, n325, k326⟩ := h_
      refine ⟨_, rfl, ?_⟩
      have ol327 := fun i h => Nat.le_trans K.size (ol323 i h)
      replace K := K.trans' k326 (fun i hi e => e.elim (fun e => absurd (e ▸ hi) (Nat.not_lt.2 z19)) (fun e => (lk220 i e).elim (fun h => h.elim) (fun h => absurd hi (Nat.not_lt.2 h))))
      replace hb224 := hb224.keeps k326 (fun i hi h => h.elim (fun h => (hb224.offT hb307 (by decide)) (h ▸ hi)) (n222 i hi))
      replace ho308 := ho308.keeps k326 (fun i hi h => h.elim (fun h => (ho308.offT hb307 (by decide)) (h ▸ hi)) (n311 i hi))
      clear hb307
      clear hd310 ol323
      refine WL.op (d := 102) (.tuple #[.slice A319 (((if List.length ys = 0 then xs else [])).length) c320, .int .i64 0]) (k := ?_)
      refine WL.op (d := 105) (.slice A319 (((if List.length ys = 0 then xs else [])).length) c320) (k := ?_)
      refine WL.op (d := 106) (.int .i64 0) (k := ?_)
      refine WL.op (d := 17) (.slice A319 (((if List.length ys = 0 then xs else [])).length) c320) (k := ?_)
      refine WL.op (d := 18) (.int .i64 0) (k := ?_)
      refine WL.nil ?_
      refine WX.seqN ?_
      refine WC.seq ?_
      refine WC.region ?_
      refine WL.op (d := 107) (.slice A319 (((if List.length ys = 0 then xs else [])).length) c320) (k := ?_)
      refine WL.op (d := 108) (.int .i64 (((if List.length ys = 0 then xs else [])).length : Int)) (k := ?_)
      refine WL.op (d := 109) (.slice Ao xs.length co) (k := ?_)
      refine WL.op (d := 110) (.int .i64 (xs.length : Int)) (k := ?_)
      refine WL.op (d := 111) (.bool ((((if List.length ys = 0 then xs else [])).length : Int) == (xs.length : Int))) (k := ?_)
      refine WL.op (d := 19) (.bool ((((if List.length ys = 0 then xs else [])).length : Int) == (xs.length : Int))) (k := ?_)
      refine WL.nil ?_
      refine WX.seqN ?_
      refine WC.seq ?_
      refine WC.seq ?_
      refine WC.region ?_
      refine WL.op (d := 112) (.slice Bo ys.length bo) (k := ?_)
      refine WL.op (d := 113) (.int .i64 (ys.length : Int)) (k := ?_)
      refine WL.op (d := 114) (.bool (decide ((ys.length : Int) > 0))) (k := ?_)
      refine WL.nil ?_
      refine WX.seqN ?_
      refine WC.cond (b := decide ((ys.length : Int) > 0)) (ht := fun h328 => ?_) (hf := fun h328 => ?_)
      · have ph328 := of_decide_eq_true h328
        refine WC.region ?_
        refine WL.op (d := 115) (.slice A319 (((if List.length ys = 0 then xs else [])).length) c320) (k := ?_)
        refine WL.op (d := 116) (.int .i64 (((if List.length ys = 0 then xs else [])).length : Int)) (k := ?_)
        refine WL.op (d := 117) (.bool ((((if List.length ys = 0 then xs else [])).length : Int) == 0)) (k := ?_)
        refine WL.op (d := 19) (.bool ((((if List.length ys = 0 then xs else [])).length : Int) == 0)) (k := ?_)
        refine WL.nil ?_
        refine WX.seqN ?_
        refine WC.seq ?_
        refine WC.region ?_
        refine WL.op (d := 118) (.bool true) (k := ?_)
        refine WL.op (d := 119) (.bool true) (k := ?_)
        refine WL.op (d := 120) (.int .i64 0) (k := ?_)
        refine WL.op (d := 121) (.bool true) (k := ?_)
        refine WL.op (d := 122) (.bool true) (k := ?_)
        refine WL.op (d := 123) (.bool true) (k := ?_)
        refine WL.op (d := 124) (.bool true) (k := ?_)
        refine WL.op (d := 125) (.bool true) (k := ?_)
        refine WL.op (d := 126) (.bool true) (k := ?_)
        refine WL.op (d := 127) (.int .i64 0) (k := ?_)
        refine WL.op (d := 128) (.bool true) (k := ?_)
        refine WL.op (d := 129) (.bool true) (k := ?_)
        refine WL.op (d := 130) (.bool true) (k := ?_)
        refine WL.op (d := 131) (.bool ((((if List.length ys = 0 then xs else [])).length : Int) == 0)) (k := ?_)
        refine WL.op (d := 132) (.bool ((((if List.length ys = 0 then xs else [])).length : Int) == 0)) (k := ?_)
        refine WL.op (d := 4) (.bool ((((if List.length ys = 0 then xs else [])).length : Int) == 0)) (k := ?_)
        refine WL.nil ?_
        refine WX.seqN ?_
        refine WC.ret ?_
        refine WX.ret (rs := [.tmp 4]) [.bool ((((if List.length ys = 0 then xs else [])).length : Int) == 0)] (.bool ((((if List.length ys = 0 then xs else [])).length : Int) == 0)) ⟨(by kernel_rfl), trivial⟩ (k := ?_)
        exact ⟨ret_bool (beq_iff_eq.2 (by rw [if_neg (by omega)]; rfl)), K⟩
      · have ph328 := of_decide_eq_false h328
        refine WC.skip ?_
        refine WX.seqN ?_
        refine WC.seq ?_
        refine WC.region ?_
        refine WL.op (d := 118) (.bool true) (k := ?_)
        refine WL.op (d := 119) (.bool true) (k := ?_)
        refine WL.op (d := 120) (.int .i64 0) (k := ?_)
        refine WL.op (d := 121) (.bool true) (k := ?_)
        refine WL.op (d := 122) (.bool true) (k := ?_)
        refine WL.op (d := 123) (.bool true) (k := ?_)
        refine WL.op (d := 124) (.bool true) (k := ?_)
        refine WL.op (d := 125) (.bool true) (k := ?_)
        refine WL.op (d := 126) (.bool true) (k := ?_)
        refine WL.op (d := 127) (.int .i64 0) (k := ?_)
        refine WL.op (d := 128) (.bool true) (k := ?_)
        refine WL.op (d := 129) (.bool true) (k := ?_)
        refine WL.op (d := 130) (.bool true) (k := ?_)
        refine WL.op (d := 131) (.bool ((((if List.length ys = 0 then xs else [])).length : Int) == (xs.length : Int))) (k := ?_)
        refine WL.op (d := 132) (.bool ((((if List.length ys = 0 then xs else [])).length : Int) == (xs.length : Int))) (k := ?_)
        refine WL.op (d := 4) (.bool ((((if List.length ys = 0 then xs else [])).length : Int) == (xs.length : Int))) (k := ?_)
        refine WL.nil ?_
        refine WX.seqN ?_
        refine WC.ret ?_
        refine WX.ret (rs := [.tmp 4]) [.bool ((((if List.length ys = 0 then xs else [])).length : Int) == (xs.length : Int))] (.bool ((((if List.length ys = 0 then xs else [])).length : Int) == (xs.length : Int))) ⟨(by kernel_rfl), trivial⟩ (k := ?_)
        exact ⟨ret_bool (beq_iff_eq.2 (by rw [if_pos (by omega)])), K⟩

end Go.Proofs.YtdoenmokahbeaaaDoor
