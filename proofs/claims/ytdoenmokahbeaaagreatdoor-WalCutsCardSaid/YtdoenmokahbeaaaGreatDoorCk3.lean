/- Logs: the laws with crashes. -/
import Derived.Test.YtdoenmokahbeaaaGreatDoorCk2
namespace Go.Proofs.YtdoenmokahbeaaaGreatDoor
open Go.RowKit
set_option linter.unusedVariables false
set_option linter.unusedSimpArgs false

set_option maxRecDepth 100000 in
theorem l07short_t (l : List UInt8) (n : Nat) (hn : n ≤ 1000000) (hl : l.length ≤ 9223372036854775807) (w : World) : Calls Tryz.prog 13 #[.string ⟨l.toArray⟩, .int .i64 (n : Int)] w fun e w' => e = .returned (.string ⟨(List.take n l).toArray⟩) ∧ Adds w w' := by
  have K : Keeps (fun _ => False) w w := Keeps.refl _ w
  refine Calls.start Tryz.func13 rfl (by kernel_rfl) ?_
  refine WC.seq ?_
  refine WC.region ?_
  refine WL.op (d := 4) (.string ⟨#[]⟩) (k := ?_)
  refine WL.nil ?_
  refine WX.seqN ?_
  refine WC.seq ?_
  refine WC.seq ?_
  refine WC.region ?_
  refine WL.op (d := 5) (.string ⟨(l).toArray⟩) (k := ?_)
  refine WL.op (d := 6) (.int .i64 (l.length : Int)) (k := ?_)
  refine WL.op (d := 7) (.int .i64 (n : Int)) (k := ?_)
  refine WL.op (d := 8) (.bool (decide ((l.length : Int) > (n : Int)))) (k := ?_)
  refine WL.nil ?_
  refine WX.seqN ?_
  refine WC.cond (b := decide ((l.length : Int) > (n : Int))) (ht := fun h1 => ?_) (hf := fun h1 => ?_)
  · have ph1 := of_decide_eq_true h1
    refine WC.seq ?_
    refine WC.region ?_
    refine WL.op (d := 9) (.string ⟨(l).toArray⟩) (k := ?_)
    refine WL.op (d := 10) (.int .i64 (n : Int)) (k := ?_)
    refine WL.cut (d := 11) (vx := .string ⟨(l).toArray⟩) (lo' := none) (hi' := (some (.int .i64 (n : Int)))) (mx' := none) (v := .string ⟨(List.take n l).toArray⟩) (run_cut (P := Tryz.prog) (w := w) (lo := none) (hi := (some (.int .i64 (n : Int)))) (T := 9) (a := 0) (b := n) (l := l) (by kernel_rfl) (.inl ⟨rfl, rfl⟩) (.inr ⟨_, _, rfl, by omega⟩) (by first | omega | (simp; omega)) (by first | omega | (simp; omega))) (k := ?_)
    refine WL.op (d := 4) (.string ⟨(List.take n l).toArray⟩) (k := ?_)
    refine WL.nil ?_
    refine WX.seqN ?_
    refine WC.ret ?_
    refine WX.seqR ?_
    refine WX.ret (rs := [.tmp 4]) [.string ⟨(List.take n l).toArray⟩] (.string ⟨(List.take n l).toArray⟩) ⟨(by kernel_rfl), trivial⟩ (k := ?_)
    exact ⟨rfl, K⟩
  · have ph1 := of_decide_eq_false h1
    refine WC.skip ?_
    refine WX.seqN ?_
    refine WC.seq ?_
    refine WC.region ?_
    refine WL.op (d := 12) (.string ⟨(l).toArray⟩) (k := ?_)
    refine WL.op (d := 4) (.string ⟨(l).toArray⟩) (k := ?_)
    refine WL.nil ?_
    refine WX.seqN ?_
    refine WC.ret ?_
    refine WX.ret (rs := [.tmp 4]) [.string ⟨(l).toArray⟩] (.string ⟨(l).toArray⟩) ⟨(by kernel_rfl), trivial⟩ (k := ?_)
    exact ⟨by rw [List.take_of_length_le (by omega)], K⟩

theorem lastOf {xs : List (List UInt8)} {l r : List UInt8} {i : Int} (h : i = (xs.length : Int)) (hr : (xs ++ [l])[i.toNat]? = some r) : r = l := by
  rw [h, Int.toNat_natCast, List.getElem?_append_right (Nat.le_refl _)] at hr; simp at hr; exact hr.symm

set_option maxRecDepth 100000 in
set_option maxHeartbeats 4000000 in
theorem lWalCuts_c (n : Int) {a b_ : List UInt8} (ha : a.length ≤ 9223372036854775807) (hb_ : b_.length ≤ 9223372036854775807) (w : World) : Calls Tryz.prog 3 #[.int .i64 n, .string ⟨a.toArray⟩, .string ⟨b_.toArray⟩] w fun e w' => e = .returned (.bool true) ∧ Adds w w' := by
  have K : Keeps (fun _ => False) w w := Keeps.refl _ w
  refine Calls.start Tryz.func3 rfl (by kernel_rfl) ?_
  refine WC.seq ?_
  refine WC.region ?_
  refine WL.op (d := 6) (.bool false) (k := ?_)
  refine WL.nil ?_
  refine WX.seqN ?_
  refine WC.seq ?_
  refine WC.region ?_
  refine WL.callG (d := 18) (f := 7) (args := #[]) (l07awake_c w) (k := fun e_ w1 h_ => ⟨.bool true, h_.1, ?_⟩)
  have k2 := h_.2; clear h_
  replace K := K.trans (k2.any _)
  refine WL.op (d := 7) (.bool true) (k := ?_)
  refine WL.nil ?_
  refine WX.seqN ?_
  refine WC.seq ?_
  refine WC.region ?_
  refine WL.callG (d := 19) (f := 8) (args := #[.int .i64 8]) (dNew_ok (n := 8) (by omega) (by omega) w1) (k := fun e_ w3 h_ => ?_)
  obtain ⟨b4, S5, rfl, g6, hd7, ho8, k9⟩ := h_
  refine ⟨_, rfl, ?_⟩
  have lk10 : ∀ k, S5 k → False ∨ w.heap.size ≤ k := fun k h => .inr (Nat.le_trans K.size (ho8 k h))
  have z11 := Nat.le_trans K.size g6
  replace K := K.trans (k9.any _)
  change DiskAt S5 b4 (⟨List.replicate 8 (List.replicate 64 (0 : UInt8)), [], 0, 0⟩ : GDisk) w3 at hd7
  have ln12 : (GDisk.secs (⟨List.replicate 8 (List.replicate 64 (0 : UInt8)), [], 0, 0⟩ : GDisk)).length = 8 := List.length_replicate
  refine WL.op (d := 8) (.pointer (some ⟨b4, 0, none⟩)) (k := ?_)
  refine WL.nil ?_
  refine WX.seqN ?_
  refine WC.seq ?_
  refine WC.region ?_
  refine WL.op (d := 20) (.pointer (some ⟨b4, 0, none⟩)) (k := ?_)
  have lay13 : LayE 8 3 (List.replicate 8 (List.replicate 64 (0 : UInt8))) [] := LayE.zero (n := 8) (by omega)
  refine WL.callG (d := 21) (f := 9) (args := #[.pointer (some ⟨b4, 0, none⟩), .int .i64 0, .int .i64 8]) (wlNew_ok (at_ := 0) (n := 8) hd7 (by omega) (by omega) ⟨by decide, by decide, by show (0 : Int) ≤ ((List.replicate 8 (List.replicate 64 (0 : UInt8))).length : Int) - 8; rw [lay13.len]; decide⟩) (k := fun e_ w14 h_ => ?_)
  obtain ⟨b15, rfl, g16, hb17, k18⟩ := h_
  refine ⟨_, rfl, ?_⟩
  have z19 := Nat.le_trans K.size g16
  have n20 : ¬ S5 b15 := fun h => absurd (hd7.lt _ h) (Nat.not_lt.2 g16)
  replace hd7 := hd7.adds k18
  replace K := K.trans (k18.any _)
  refine WL.op (d := 9) (.pointer (some ⟨b15, 0, none⟩)) (k := ?_)
  refine WL.nil ?_
  refine WX.seqN ?_
  refine WC.seq ?_
  refine WC.seq ?_
  refine WC.region ?_
  refine WL.op (d := 22) (.pointer (some ⟨b4, 0, none⟩)) (k := ?_)
  refine WL.op (d := 23) (.bool false) (k := ?_)
  refine WL.op (d := 24) (.bool false) (k := ?_)
  refine WL.op (d := 25) (.pointer (some ⟨b15, 0, none⟩)) (k := ?_)
  refine WL.op (d := 26) (.bool false) (k := ?_)
  refine WL.op (d := 27) (.bool false) (k := ?_)
  refine WL.nil ?_
  refine WX.seqN ?_
  refine WC.condF (k := ?_)
  refine WC.skip ?_
  refine WX.seqN ?_
  refine WC.seq ?_
  refine WC.region ?_
  refine WL.op (d := 28) (.pointer (some ⟨b15, 0, none⟩)) (k := ?_)
  refine WL.callG (d := 29) (f := 10) (args := #[.pointer (some ⟨b15, 0, none⟩), .int .u64 3]) (wlStart_ok (e := 3) hb17 (by omega)) (k := fun e_ w21 h_ => ?_)
  obtain ⟨rfl, hb22, k23⟩ := h_
  refine ⟨_, rfl, ?_⟩
  replace hd7 := hd7.keeps k23 (fun i hi e => n20 (e ▸ hi))
  replace K := K.trans' k23 (fun i hi e => absurd (e ▸ hi) (Nat.not_lt.2 z19))
  clear hb17
  change w21.heap[b15]? = some (.cells #[.pointer (some ⟨b4, 0, none⟩), .int .i64 0, .int .i64 8, .iface 78 (.agg #[.int .u64 3, .int .i64 (List.length ([] : List (List UInt8)) : Int)])] 76 (0, 0)) at hb22
  refine WL.nil ?_
  refine WX.seqN ?_
  refine WC.seq ?_
  refine WC.region ?_
  refine WL.op (d := 30) (.int .i64 n) (k := ?_)
  refine WL.bin (d := 31) (v := .int .i64 (Int.tmod n 7)) (rem_run (by omega)) (k := ?_)
  have m24 := tmod_rng n 7 (by omega)
  obtain ⟨r25, e26⟩ : ∃ r : Int, Int.tmod n 7 = r := ⟨_, rfl⟩
  rw [e26] at m24
  refine WL.rw (t := 31) (v := .int .i64 r25) (congrArg (Value.int .i64) e26) (k := ?_)
  refine WL.opE (d := 32) (.int .i64 (IntKind.i64.wrap (r25 + 7))) (v := .int .i64 (r25 + 7)) (congrArg (Value.int .i64) (IntWalk.i64_in _ (by omega))) (k := ?_)
  refine WL.bin (d := 33) (v := .int .i64 (Int.tmod (r25 + 7) 7)) (rem_run (by omega)) (k := ?_)
  have m27 := tmod_rng (r25 + 7) 7 (by omega)
  obtain ⟨r28, e29⟩ : ∃ r : Int, Int.tmod (r25 + 7) 7 = r := ⟨_, rfl⟩
  rw [e29] at m27
  refine WL.rw (t := 33) (v := .int .i64 r28) (congrArg (Value.int .i64) e29) (k := ?_)
  refine WL.op (d := 10) (.int .i64 r28) (k := ?_)
  refine WL.nil ?_
  refine WX.seqN ?_
  refine WC.seq ?_
  refine WC.seq ?_
  refine WC.region ?_
  refine WL.op (d := 11) (.int .i64 0) (k := ?_)
  refine WL.nil ?_
  refine WX.seqN ?_
  refine WC.block ?_
  refine WC.loop (ι := Int × (List (List UInt8)) × (List (List UInt8)) × Int × (Nat → Prop)) (fun (⟨i, xs, sc, rd, Si⟩ : Int × (List (List UInt8)) × (List (List UInt8)) × Int × (Nat → Prop)) => [(0, .int .i64 n), (1, .string ⟨(a).toArray⟩), (2, .string ⟨(b_).toArray⟩), (6, .bool false), (18, .bool true), (7, .bool true), (19, .pointer (some ⟨b4, 0, none⟩)), (8, .pointer (some ⟨b4, 0, none⟩)), (20, .pointer (some ⟨b4, 0, none⟩)), (21, .pointer (some ⟨b15, 0, none⟩)), (9, .pointer (some ⟨b15, 0, none⟩)), (22, .pointer (some ⟨b4, 0, none⟩)), (23, .bool false), (24, .bool false), (25, .pointer (some ⟨b15, 0, none⟩)), (26, .bool false), (27, .bool false), (28, .pointer (some ⟨b15, 0, none⟩)), (30, .int .i64 n), (31, .int .i64 r25), (32, .int .i64 (r25 + 7)), (33, .int .i64 r28), (10, .int .i64 r28), (11, .int .i64 i)]) (fun (⟨i, xs, sc, rd, Si⟩ : Int × (List (List UInt8)) × (List (List UInt8)) × Int × (Nat → Prop)) (w_ : World) => (Keeps (fun _ => False) w w_) ∧ (DiskAt Si b4 (⟨sc, [], 0, rd⟩ : GDisk) w_) ∧ (∀ k, Si k → (fun _ => False) k ∨ w.heap.size ≤ k) ∧ (¬ Si b15) ∧ (w_.heap[b15]? = some (.cells #[.pointer (some ⟨b4, 0, none⟩), .int .i64 0, .int .i64 8, .iface 78 (.agg #[.int .u64 3, .int .i64 (List.length xs : Int)])] 76 (0, 0))) ∧ (0 ≤ i) ∧ ((xs.length : Int) = i) ∧ (i ≤ r28) ∧ (LayE 8 3 sc xs)) (fun (⟨i, xs, sc, rd, Si⟩ : Int × (List (List UInt8)) × (List (List UInt8)) × Int × (Nat → Prop)) => (8 - i).toNat) (0, [], List.replicate 8 (List.replicate 64 (0 : UInt8)), 0, S5) ⟨(by kernel_rfl), (by kernel_rfl), (by kernel_rfl), (by kernel_rfl), (by kernel_rfl), (by kernel_rfl), (by kernel_rfl), (by kernel_rfl), (by kernel_rfl), (by kernel_rfl), (by kernel_rfl), (by kernel_rfl), (by kernel_rfl), (by kernel_rfl), (by kernel_rfl), (by kernel_rfl), (by kernel_rfl), (by kernel_rfl), (by kernel_rfl), (by kernel_rfl), (by kernel_rfl), (by kernel_rfl), (by kernel_rfl), (by kernel_rfl), trivial⟩ ⟨K, hd7, lk10, n20, hb22, Int.le_refl 0, rfl, (by omega), lay13⟩ ?_
  rintro ⟨i, xs, sc, rd, Si⟩ w30 ⟨K, hb31, lk32, n33, hb34, i0, ix, i1, hl⟩
  refine WC.seq ?_
  refine WC.seq ?_
  refine WC.region ?_
  refine WL.op (d := 34) (.int .i64 i) (k := ?_)
  refine WL.op (d := 35) (.int .i64 r28) (k := ?_)
  refine WL.op (d := 36) (.bool (decide (i < r28))) (k := ?_)
  refine WL.nil ?_
  refine WX.seqN ?_
  refine WC.cond (b := decide (i < r28)) (ht := fun h35 => ?_) (hf := fun h35 => ?_)
  · have ph35 := of_decide_eq_true h35
    refine WC.skip ?_
    refine WX.seqN ?_
    refine WC.seq ?_
    refine WC.block ?_
    refine WC.region ?_
    refine WL.op (d := 39) (.pointer (some ⟨b15, 0, none⟩)) (k := ?_)
    refine bsplit (decide ((List.length xs : Int) < 8)) (fun h36 => ?_) (fun h36 => ?_)
    · have ph36 := of_decide_eq_true h36
      refine WL.callG (d := 40) (f := 11) (args := #[.pointer (some ⟨b15, 0, none⟩), .string ⟨#[114]⟩]) (wlApp_f0 (l := [114]) (e := 3) (r := (List.length xs : Int)) (f := 0) (by decide) (by decide) hb34 hb31 n33 (by show List.length [114] ≤ 43; first | omega | (simp; done) | (simp; omega)) (by omega) (by omega) (by omega) (by omega) (by rw [hl.len]; rfl)) (k := fun e_ w37 h_ => ?_)
      obtain ⟨S38, rfl, hb39, hd40, lk41, n42, k43⟩ := h_
      refine ⟨_, rfl, ?_⟩
      have ll_ : List.length [114] ≤ 43 := (by show List.length [114] ≤ 43; first | omega | (simp; done) | (simp; omega))
      rw [show (List.length xs : Int) + 1 = (List.length (xs ++ [[114]]) : Int) from by simp] at hb39
      have lk44 := lk_step lk32 lk41 K
      replace K := K.trans' k43 (fun i hi e => e.elim (fun e => absurd (e ▸ hi) (Nat.not_lt.2 z19)) (fun e => (lk32 i e).elim (fun h => h.elim) (fun h => absurd hi (Nat.not_lt.2 h))))
      clear hb34 hb31
      rw [Int.toNat_natCast] at hd40
      have lay45 := LayE.put (x := [114]) hl ll_ (by omega)
      change DiskAt S38 b4 (⟨List.set sc (List.length xs) (makeS [114] 3 (List.length xs)), [], 0, rd⟩ : GDisk) w37 at hd40
      obtain ⟨sc46, hs47⟩ : ∃ q, List.set sc (List.length xs) (makeS [114] 3 (List.length xs)) = q := ⟨_, rfl⟩
      rw [hs47] at hd40 lay45
      refine WL.nil ?_
      refine WX.blockN ?_
      refine WX.seqN ?_
      refine WC.region ?_
      refine WL.op (d := 37) (.int .i64 i) (k := ?_)
      refine WL.opE (d := 38) (.int .i64 (IntKind.i64.wrap (i + 1))) (v := .int .i64 (i + 1)) (congrArg (Value.int .i64) (IntWalk.i64_in _ (by omega))) (k := ?_)
      refine WL.op (d := 11) (.int .i64 (i + 1)) (k := ?_)
      refine WL.nil ?_
      refine WX.round (i + 1, xs ++ [[114]], sc46, rd, S38) (by show (8 - (i + 1)).toNat < (8 - i).toNat; omega) ⟨(by kernel_rfl), (by kernel_rfl), (by kernel_rfl), (by kernel_rfl), (by kernel_rfl), (by kernel_rfl), (by kernel_rfl), (by kernel_rfl), (by kernel_rfl), (by kernel_rfl), (by kernel_rfl), (by kernel_rfl), (by kernel_rfl), (by kernel_rfl), (by kernel_rfl), (by kernel_rfl), (by kernel_rfl), (by kernel_rfl), (by kernel_rfl), (by kernel_rfl), (by kernel_rfl), (by kernel_rfl), (by kernel_rfl), (by kernel_rfl), trivial⟩ ⟨K, hd40, lk44, n42, hb39, (by omega), (by first | omega | (rw [List.length_append]; simp; omega)), (by omega), lay45⟩
    · have ph36 := of_decide_eq_false h36
      refine WL.callG (d := 40) (f := 11) (args := #[.pointer (some ⟨b15, 0, none⟩), .string ⟨#[114]⟩]) (wlAppend_full (l := [114]) hb34 hb31 n33 (by show List.length [114] ≤ 43; first | omega | (simp; done) | (simp; omega)) (by omega)) (k := fun e_ w48 h_ => ⟨.int .i64 22, h_.1, ?_⟩)
      have k49 := h_.2; clear h_
      replace hb31 := hb31.adds k49
      replace hb34 := k49.heap hb34 id
      replace K := K.trans (k49.any _)
      refine WL.nil ?_
      refine WX.blockN ?_
      refine WX.seqN ?_
      refine WC.region ?_
      refine WL.op (d := 37) (.int .i64 i) (k := ?_)
      refine WL.opE (d := 38) (.int .i64 (IntKind.i64.wrap (i + 1))) (v := .int .i64 (i + 1)) (congrArg (Value.int .i64) (IntWalk.i64_in _ (by omega))) (k := ?_)
      refine WL.op (d := 11) (.int .i64 (i + 1)) (k := ?_)
      refine WL.nil ?_
      refine WX.round (i + 1, xs, sc, rd, Si) (by show (8 - (i + 1)).toNat < (8 - i).toNat; omega) ⟨(by kernel_rfl), (by kernel_rfl), (by kernel_rfl), (by kernel_rfl), (by kernel_rfl), (by kernel_rfl), (by kernel_rfl), (by kernel_rfl), (by kernel_rfl), (by kernel_rfl), (by kernel_rfl), (by kernel_rfl), (by kernel_rfl), (by kernel_rfl), (by kernel_rfl), (by kernel_rfl), (by kernel_rfl), (by kernel_rfl), (by kernel_rfl), (by kernel_rfl), (by kernel_rfl), (by kernel_rfl), (by kernel_rfl), (by kernel_rfl), trivial⟩ ⟨K, hb31, lk32, n33, hb34, (by omega), (by first | omega | (rw [List.length_append]; simp; omega)), (by omega), hl⟩
  · have ph35 := of_decide_eq_false h35
    refine WC.exit ?_
    refine WX.seqE ?_
    refine WX.seqE ?_
    refine WX.blockE ?_
    refine WX.seqN ?_
    refine WC.seq ?_
    refine WC.region ?_
    refine WL.op (d := 41) (.pointer (some ⟨b4, 0, none⟩)) (k := ?_)
    refine WL.callG (d := 42) (f := 12) (args := #[.pointer (some ⟨b4, 0, none⟩), .int .i64 2]) (dFail_at (f := 2) hb31 (by omega) (by omega)) (k := fun e_ w50 h_ => ?_)
    obtain ⟨rfl, hd51, k52⟩ := h_
    refine ⟨_, rfl, ?_⟩
    replace hb34 := k52.heap hb34 n33
    replace K := K.trans' k52 (fun i hi e => (lk32 i e).elim (fun h => h.elim) (fun h => absurd hi (Nat.not_lt.2 h)))
    clear hb31
    refine WL.nil ?_
    refine WX.seqN ?_
    refine WC.seq ?_
    refine WC.region ?_
    refine WL.op (d := 43) (.pointer (some ⟨b15, 0, none⟩)) (k := ?_)
    refine WL.op (d := 44) (.string ⟨(a).toArray⟩) (k := ?_)
    refine WL.callG (d := 45) (f := 13) (args := #[.string ⟨(a).toArray⟩, .int .i64 43]) (l07short_t a 43 (by omega) (by omega) w50) (k := fun e_ w54 h_ => ⟨.string ⟨(List.take 43 a).toArray⟩, h_.1, ?_⟩)
    have k55 := h_.2; clear h_
    replace hd51 := hd51.adds k55
    replace hb34 := k55.heap hb34 id
    replace K := K.trans (k55.any _)
    have tl53 : (List.take 43 a).length ≤ 43 := by simp; omega
    refine bsplit (decide ((List.length xs : Int) < 8)) (fun h56 => ?_) (fun h56 => ?_)
    · have ph56 := of_decide_eq_true h56
      refine WL.callG (d := 46) (f := 11) (args := #[.pointer (some ⟨b15, 0, none⟩), .string ⟨(List.take 43 a).toArray⟩]) (wlApp_f2 (l := List.take 43 a) (e := 3) (r := (List.length xs : Int)) hb34 hd51 n33 (by show List.length (List.take 43 a) ≤ 43; first | omega | (simp; done) | (simp; omega)) (by omega) (by omega) (by omega) (by omega) (by rw [hl.len]; rfl)) (k := fun e_ w57 h_ => ?_)
      obtain ⟨S58, rfl, hb59, hd60, lk61, n62, k63⟩ := h_
      refine ⟨_, rfl, ?_⟩
      have ll_ : List.length (List.take 43 a) ≤ 43 := (by show List.length (List.take 43 a) ≤ 43; first | omega | (simp; done) | (simp; omega))
      have lk64 := lk_step lk32 lk61 K
      replace K := K.trans' k63 (fun i hi e => e.elim (fun e => absurd (e ▸ hi) (Nat.not_lt.2 z19)) (fun e => (lk32 i e).elim (fun h => h.elim) (fun h => absurd hi (Nat.not_lt.2 h))))
      clear hb34 hd51
      rw [Int.zero_add, Int.toNat_natCast] at hd60
      refine WL.op (d := 12) (.int .i64 18) (k := ?_)
      refine WL.nil ?_
      refine WX.seqN ?_
      refine WC.seq ?_
      refine WC.region ?_
      refine WL.op (d := 47) (.pointer (some ⟨b4, 0, none⟩)) (k := ?_)
      refine WL.callG (d := 48) (f := 14) (args := #[.pointer (some ⟨b4, 0, none⟩), .slice none 0 0]) (dCrash_c (fs := []) (cf := 0) hd60 SlAt.nil (fun h => absurd rfl h) (by simp)) (k := fun e_ w65 h_ => ?_)
      obtain ⟨rfl, S66, hd68, lk67, k69⟩ := h_
      refine ⟨_, rfl, ?_⟩
      have n70 : ¬ S66 b15 := fun h => (lk67 _ h).elim n62 (fun h2 => absurd (lt_of_heap hb59) (Nat.not_lt.2 h2))
      have lk71 := lk_step lk64 lk67 K
      replace hb59 := k69.heap hb59 n62
      replace K := K.trans' k69 (fun i hi e => (lk64 i e).elim (fun h => h.elim) (fun h => absurd hi (Nat.not_lt.2 h)))
      clear hd60
      change DiskAt S66 b4 (⟨List.set sc (List.length xs) (mixS (fateF ([] : List (Int × Int)) 0) (makeS (List.take 43 a) 3 (List.length xs)) (List.getD sc (List.length xs) [])), [], 0, 0⟩ : GDisk) w65 at hd68
      rw [show fateF ([] : List (Int × Int)) 0 = 0 from rfl, set_mix0] at hd68
      refine WL.nil ?_
      refine WX.seqN ?_
      refine WC.seq ?_
      refine WC.region ?_
      refine WL.op (d := 50) (.pointer (some ⟨b15, 0, none⟩)) (k := ?_)
      obtain ⟨r72, hs73⟩ := LayE.scan hl (by decide) (by omega) 0
      refine WL.callG (d := 51) (f := 15) (args := #[.pointer (some ⟨b15, 0, none⟩), .int .u64 3]) (wlScan_good (e := 3) (xs := xs) hb59 hd68 n70 (by decide) (by decide) (by decide) (by omega) (by omega) hs73) (k := fun e_ w74 h_ => ?_)
      obtain ⟨A75, c76, rfl, hb77, ho78, ol79, hd80, n81, k82⟩ := h_
      refine ⟨_, rfl, ?_⟩
      have ol83 := fun i h => Nat.le_trans K.size (ol79 i h)
      replace K := K.trans' k82 (fun i hi e => e.elim (fun e => absurd (e ▸ hi) (Nat.not_lt.2 z19)) (fun e => (lk71 i e).elim (fun h => h.elim) (fun h => absurd hi (Nat.not_lt.2 h))))
      clear hb59 hd68 ol79
      refine WL.op (d := 49) (.tuple #[.slice A75 (List.length xs) c76, .int .i64 0]) (k := ?_)
      refine WL.op (d := 52) (.slice A75 (List.length xs) c76) (k := ?_)
      refine WL.op (d := 53) (.int .i64 0) (k := ?_)
      refine WL.op (d := 13) (.slice A75 (List.length xs) c76) (k := ?_)
      refine WL.op (d := 14) (.int .i64 0) (k := ?_)
      refine WL.nil ?_
      refine WX.seqN ?_
      refine WC.seq ?_
      refine WC.region ?_
      refine WL.op (d := 54) (.pointer (some ⟨b15, 0, none⟩)) (k := ?_)
      refine WL.op (d := 55) (.string ⟨(b_).toArray⟩) (k := ?_)
      refine WL.callG (d := 56) (f := 13) (args := #[.string ⟨(b_).toArray⟩, .int .i64 43]) (l07short_t b_ 43 (by omega) (by omega) w74) (k := fun e_ w85 h_ => ⟨.string ⟨(List.take 43 b_).toArray⟩, h_.1, ?_⟩)
      have k86 := h_.2; clear h_
      replace hd80 := hd80.adds k86
      replace hb77 := k86.heap hb77 id
      replace ho78 := ho78.adds k86
      replace K := K.trans (k86.any _)
      have tl84 : (List.take 43 b_).length ≤ 43 := by simp; omega
      refine WL.callG (d := 57) (f := 11) (args := #[.pointer (some ⟨b15, 0, none⟩), .string ⟨(List.take 43 b_).toArray⟩]) (wlApp_f0 (l := List.take 43 b_) (e := 3) (r := (List.length xs : Int)) (f := 0) (by decide) (by decide) hb77 hd80 n70 (by show List.length (List.take 43 b_) ≤ 43; first | omega | (simp; done) | (simp; omega)) (by omega) (by omega) (by omega) (by omega) (by rw [hl.len]; rfl)) (k := fun e_ w87 h_ => ?_)
      obtain ⟨S88, rfl, hb89, hd90, lk91, n92, k93⟩ := h_
      refine ⟨_, rfl, ?_⟩
      have ll_ : List.length (List.take 43 b_) ≤ 43 := (by show List.length (List.take 43 b_) ≤ 43; first | omega | (simp; done) | (simp; omega))
      rw [show (List.length xs : Int) + 1 = (List.length (xs ++ [List.take 43 b_]) : Int) from by simp] at hb89
      have n94 : ∀ i, blk A75 = some i → ¬ S88 i := fun i hi h => (lk91 _ h).elim (n81 i hi) (fun h2 => absurd (ho78.lt i hi) (Nat.not_lt.2 h2))
      have lk95 := lk_step lk71 lk91 K
      replace K := K.trans' k93 (fun i hi e => e.elim (fun e => absurd (e ▸ hi) (Nat.not_lt.2 z19)) (fun e => (lk71 i e).elim (fun h => h.elim) (fun h => absurd hi (Nat.not_lt.2 h))))
      replace ho78 := ho78.keeps k93 (fun i hi h => h.elim (fun h => (ho78.offT hb77 (by decide)) (h ▸ hi)) (n81 i hi))
      clear hb77 hd80
      rw [Int.toNat_natCast] at hd90
      have lay96 := LayE.put (x := List.take 43 b_) hl ll_ (by omega)
      change DiskAt S88 b4 (⟨List.set sc (List.length xs) (makeS (List.take 43 b_) 3 (List.length xs)), [], 0, r72⟩ : GDisk) w87 at hd90
      obtain ⟨sc97, hs98⟩ : ∃ q, List.set sc (List.length xs) (makeS (List.take 43 b_) 3 (List.length xs)) = q := ⟨_, rfl⟩
      rw [hs98] at hd90 lay96
      refine WL.op (d := 15) (.int .i64 0) (k := ?_)
      refine WL.nil ?_
      refine WX.seqN ?_
      refine WC.seq ?_
      refine WC.region ?_
      refine WL.op (d := 59) (.pointer (some ⟨b15, 0, none⟩)) (k := ?_)
      obtain ⟨r99, hs100⟩ := LayE.scan lay96 (by decide) (by omega) r72
      refine WL.callG (d := 60) (f := 15) (args := #[.pointer (some ⟨b15, 0, none⟩), .int .u64 3]) (wlScan_good (e := 3) (xs := (xs ++ [List.take 43 b_])) hb89 hd90 n92 (by decide) (by decide) (by decide) (by omega) (by omega) hs100) (k := fun e_ w101 h_ => ?_)
      obtain ⟨A102, c103, rfl, hb104, ho105, ol106, hd107, n108, k109⟩ := h_
      refine ⟨_, rfl, ?_⟩
      have ol110 := fun i h => Nat.le_trans K.size (ol106 i h)
      replace K := K.trans' k109 (fun i hi e => e.elim (fun e => absurd (e ▸ hi) (Nat.not_lt.2 z19)) (fun e => (lk95 i e).elim (fun h => h.elim) (fun h => absurd hi (Nat.not_lt.2 h))))
      replace ho78 := ho78.keeps k109 (fun i hi h => h.elim (fun h => (ho78.offT hb89 (by decide)) (h ▸ hi)) (n94 i hi))
      clear hb89 hd90 ol106
      have ll111 : (List.length (xs ++ [List.take 43 b_]) : Int) = (List.length xs : Int) + 1 := by simp
      refine WL.op (d := 58) (.tuple #[.slice A102 (List.length (xs ++ [List.take 43 b_])) c103, .int .i64 0]) (k := ?_)
      refine WL.op (d := 61) (.slice A102 (List.length (xs ++ [List.take 43 b_])) c103) (k := ?_)
      refine WL.op (d := 62) (.int .i64 0) (k := ?_)
      refine WL.op (d := 16) (.slice A102 (List.length (xs ++ [List.take 43 b_])) c103) (k := ?_)
      refine WL.op (d := 17) (.int .i64 0) (k := ?_)
      refine WL.nil ?_
      refine WX.seqN ?_
      refine WC.seq ?_
      refine WC.mixed (fun _ => False) 39 (k := fun w112 k113 => ?_)
      replace hd107 := hd107.adds k113
      replace hb104 := k113.heap hb104 id
      replace ho78 := ho78.adds k113
      replace ho105 := ho105.adds k113
      replace K := K.trans (k113.any _)
      have KC := Keeps.refl (fun _ => False) w112
      have bh114 := hb104
      have Kb := K
      refine WA.quiet 0 (d := 63) (.bool true) KC (hi := rfl) (k := ?_)
      refine WA.quiet 1 (d := 64) (.bool true) KC (hi := rfl) (k := ?_)
      refine WA.quiet 2 (d := 65) (.int .i64 18) KC (hi := rfl) (k := ?_)
      refine WA.quiet 3 (d := 66) (.bool true) KC (hi := rfl) (k := ?_)
      refine WA.quiet 4 (d := 67) (.bool true) KC (hi := rfl) (k := ?_)
      refine WA.quiet 5 (d := 68) (.bool true) KC (hi := rfl) (k := ?_)
      refine WA.quiet 6 (d := 69) (.int .i64 0) KC (hi := rfl) (k := ?_)
      refine WA.quiet 7 (d := 70) (.bool true) KC (hi := rfl) (k := ?_)
      refine WA.quiet 8 (d := 71) (.bool true) KC (hi := rfl) (k := ?_)
      refine WA.quiet 9 (d := 72) (.bool true) KC (hi := rfl) (k := ?_)
      refine WA.quiet 10 (d := 73) (.slice A75 (List.length xs) c76) KC (hi := rfl) (k := ?_)
      refine WA.quiet 11 (d := 74) (.int .i64 ((List.length xs) : Int)) KC (hi := rfl) (k := ?_)
      refine WA.quiet 12 (d := 75) (.int .i64 r28) KC (hi := rfl) (k := ?_)
      refine WA.quiet 13 (d := 76) (.bool (((List.length xs) : Int) == r28)) KC (hi := rfl) (k := ?_)
      refine WA.quiet 14 (d := 77) (.bool (((List.length xs) : Int) == r28)) KC (hi := rfl) (k := ?_)
      refine WA.quiet 15 (d := 78) (.bool (((List.length xs) : Int) == r28)) KC (hi := rfl) (k := ?_)
      refine bsplit (((List.length xs) : Int) == r28) (fun h115 => ?_) (fun h115 => ?_)
      · have ph115 := eq_of_beq h115
        refine WA.rw (t := 78) (v := .bool true) (congrArg Value.bool h115) (k := ?_)
        refine WA.quiet 16 (d := 79) (.int .i64 0) KC (hi := rfl) (k := ?_)
        refine WA.quiet 17 (d := 80) (.bool true) KC (hi := rfl) (k := ?_)
        refine WA.quiet 18 (d := 81) (.bool true) KC (hi := rfl) (k := ?_)
        refine WA.quiet 19 (d := 82) (.bool true) KC (hi := rfl) (k := ?_)
        refine WA.quiet 20 (d := 83) (.int .i64 0) KC (hi := rfl) (k := ?_)
        refine WA.quiet 21 (d := 84) (.bool true) KC (hi := rfl) (k := ?_)
        refine WA.quiet 22 (d := 85) (.bool true) KC (hi := rfl) (k := ?_)
        refine WA.quiet 23 (d := 86) (.bool true) KC (hi := rfl) (k := ?_)
        refine WA.quiet 24 (d := 87) (.slice A102 (List.length (xs ++ [List.take 43 b_])) c103) KC (hi := rfl) (k := ?_)
        refine WA.quiet 25 (d := 88) (.int .i64 ((List.length (xs ++ [List.take 43 b_])) : Int)) KC (hi := rfl) (k := ?_)
        refine WA.quiet 26 (d := 89) (.int .i64 r28) KC (hi := rfl) (k := ?_)
        refine WA.quiet 27 (d := 90) (.int .i64 (IntKind.i64.wrap (r28 + 1))) KC (hi := rfl) (k := ?_)
        refine WA.rw (t := 90) (v := .int .i64 (r28 + 1)) (congrArg (Value.int .i64) (IntWalk.i64_in _ (by omega))) (k := ?_)
        refine WA.quiet 28 (d := 91) (.bool (((List.length (xs ++ [List.take 43 b_])) : Int) == (r28 + 1))) KC (hi := rfl) (k := ?_)
        refine WA.quiet 29 (d := 92) (.bool (((List.length (xs ++ [List.take 43 b_])) : Int) == (r28 + 1))) KC (hi := rfl) (k := ?_)
        refine WA.quiet 30 (d := 93) (.bool (((List.length (xs ++ [List.take 43 b_])) : Int) == (r28 + 1))) KC (hi := rfl) (k := ?_)
        refine bsplit (((List.length (xs ++ [List.take 43 b_])) : Int) == (r28 + 1)) (fun h116 => ?_) (fun h116 => ?_)
        · have ph116 := eq_of_beq h116
          refine WA.rw (t := 93) (v := .bool true) (congrArg Value.bool h116) (k := ?_)
          refine WA.quiet 31 (d := 94) (.slice A102 (List.length (xs ++ [List.take 43 b_])) c103) KC (hi := rfl) (k := ?_)
          refine WA.quiet 32 (d := 95) (.int .i64 r28) KC (hi := rfl) (k := ?_)
          obtain ⟨b117, o118, r119, hr120, hA121, he122⟩ := SlAt.at (ho105.sl ekStr) (i := r28) (by omega) (by omega)
          refine WA.rw (t := 94) (v := .slice (some ⟨b117, o118, none⟩) (List.length (xs ++ [List.take 43 b_])) c103) (congrArg (fun a => Value.slice a (List.length (xs ++ [List.take 43 b_])) c103) hA121) (k := ?_)
          have e_r119 : r119 = List.take 43 b_ := lastOf (by omega) hr120
          refine WA.quietR 33 (d := 96) (.pointer (some ⟨b117, o118 + (r28).toNat * 1, none⟩)) KC (exec_idx (T := 34) (E := 9) (m := 1) (b := b117) (o := o118) (len := (List.length (xs ++ [List.take 43 b_]))) (cap := c103) (i := r28) (kk := .i64) (by omega) (by omega)) (hi := rfl) (k := ?_)
          refine WA.rw (t := 94) (v := .slice A102 (List.length (xs ++ [List.take 43 b_])) c103) (congrArg (fun a => Value.slice a (List.length (xs ++ [List.take 43 b_])) c103) (Eq.symm hA121)) (k := ?_)
          refine WA.quietR 34 (d := 97) (.string ⟨(r119).toArray⟩) KC (exec_load (fun w_ k_ => (he122.adds k_).ld0 (T := 9))) (hi := rfl) (k := ?_)
          refine WA.quiet 35 (d := 98) (.string ⟨(b_).toArray⟩) KC (hi := rfl) (k := ?_)
          refine WA.step 36 (hi := rfl) (k := ?_)
          refine WL.callG (d := 99) (f := 13) (args := #[.string ⟨(b_).toArray⟩, .int .i64 43]) (l07short_t b_ 43 (by omega) (by omega) w112) (k := fun e_ w124 h_ => ⟨.string ⟨(List.take 43 b_).toArray⟩, h_.1, ?_⟩)
          have k125 := h_.2; clear h_
          replace hd107 := hd107.adds k125
          replace hb104 := k125.heap hb104 id
          replace ho78 := ho78.adds k125
          replace ho105 := ho105.adds k125
          replace he122 := he122.adds k125
          replace K := K.trans (k125.any _)
          replace KC := KC.trans (k125.any _)
          have tl123 : (List.take 43 b_).length ≤ 43 := by simp; omega
          refine WL.nil ?_
          refine WX.nxt KC ?_
          refine WA.quiet 37 (d := 100) (.bool (ByteArray.toList ⟨(r119).toArray⟩ == ByteArray.toList ⟨(List.take 43 b_).toArray⟩)) KC (hi := rfl) (k := ?_)
          refine WA.rw (t := 100) (v := .bool (decide (r119 = List.take 43 b_))) (str_eql _ _) (k := ?_)
          refine WA.quiet 38 (d := 101) (.bool (decide (r119 = List.take 43 b_))) KC (hi := rfl) (k := ?_)
          refine WA.step 39 (hi := rfl) (k := ?_)
          refine WL.op (d := 6) (.bool (decide (r119 = List.take 43 b_))) (k := ?_)
          refine WL.nil ?_
          refine WX.nxtL ?_
          refine WA.done (k := ?_)
          clear KC
          refine WX.seqN ?_
          refine WC.ret ?_
          refine WX.ret (rs := [.tmp 6]) [.bool (decide (r119 = List.take 43 b_))] (.bool (decide (r119 = List.take 43 b_))) ⟨(by kernel_rfl), trivial⟩ (k := ?_)
          exact ⟨ret_bool (decide_eq_true e_r119), K⟩
        · have ph116 := ne_of_beq_false h116
          refine WA.rw (t := 93) (v := .bool false) (congrArg Value.bool h116) (k := ?_)
          refine WA.quietS 31 (d := 94) KC (hi := rfl) (k := ?_)
          refine WA.quietS 32 (d := 95) KC (hi := rfl) (k := ?_)
          refine WA.quietS 33 (d := 96) KC (hi := rfl) (k := ?_)
          refine WA.quietS 34 (d := 97) KC (hi := rfl) (k := ?_)
          refine WA.quietS 35 (d := 98) KC (hi := rfl) (k := ?_)
          refine WA.step 36 (hi := rfl) (k := ?_)
          refine WL.skip (d := 99) (k := ?_)
          refine WL.nil ?_
          refine WX.nxt KC ?_
          refine WA.quietS 37 (d := 100) KC (hi := rfl) (k := ?_)
          refine WA.quiet 38 (d := 101) (.bool false) KC (hi := rfl) (k := ?_)
          refine WA.step 39 (hi := rfl) (k := ?_)
          refine WL.op (d := 6) (.bool false) (k := ?_)
          refine WL.nil ?_
          refine WX.nxtL ?_
          refine WA.done (k := ?_)
          clear KC
          refine WX.seqN ?_
          refine WC.ret ?_
          refine WX.ret (rs := [.tmp 6]) [.bool false] (.bool false) ⟨(by kernel_rfl), trivial⟩ (k := ?_)
          exfalso; first | omega | (simp at *; omega)
      · have ph115 := ne_of_beq_false h115
        refine WA.rw (t := 78) (v := .bool false) (congrArg Value.bool h115) (k := ?_)
        refine WA.quietS 16 (d := 79) KC (hi := rfl) (k := ?_)
        refine WA.quietS 17 (d := 80) KC (hi := rfl) (k := ?_)
        refine WA.quiet 18 (d := 81) (.bool false) KC (hi := rfl) (k := ?_)
        refine WA.quiet 19 (d := 82) (.bool false) KC (hi := rfl) (k := ?_)
        refine WA.quietS 20 (d := 83) KC (hi := rfl) (k := ?_)
        refine WA.quietS 21 (d := 84) KC (hi := rfl) (k := ?_)
        refine WA.quiet 22 (d := 85) (.bool false) KC (hi := rfl) (k := ?_)
        refine WA.quiet 23 (d := 86) (.bool false) KC (hi := rfl) (k := ?_)
        refine WA.quietS 24 (d := 87) KC (hi := rfl) (k := ?_)
        refine WA.quietS 25 (d := 88) KC (hi := rfl) (k := ?_)
        refine WA.quietS 26 (d := 89) KC (hi := rfl) (k := ?_)
        refine WA.quietS 27 (d := 90) KC (hi := rfl) (k := ?_)
        refine WA.quietS 28 (d := 91) KC (hi := rfl) (k := ?_)
        refine WA.quiet 29 (d := 92) (.bool false) KC (hi := rfl) (k := ?_)
        refine WA.quiet 30 (d := 93) (.bool false) KC (hi := rfl) (k := ?_)
        refine WA.quietS 31 (d := 94) KC (hi := rfl) (k := ?_)
        refine WA.quietS 32 (d := 95) KC (hi := rfl) (k := ?_)
        refine WA.quietS 33 (d := 96) KC (hi := rfl) (k := ?_)
        refine WA.quietS 34 (d := 97) KC (hi := rfl) (k := ?_)
        refine WA.quietS 35 (d := 98) KC (hi := rfl) (k := ?_)
        refine WA.step 36 (hi := rfl) (k := ?_)
        refine WL.skip (d := 99) (k := ?_)
        refine WL.nil ?_
        refine WX.nxt KC ?_
        refine WA.quietS 37 (d := 100) KC (hi := rfl) (k := ?_)
        refine WA.quiet 38 (d := 101) (.bool false) KC (hi := rfl) (k := ?_)
        refine WA.step 39 (hi := rfl) (k := ?_)
        refine WL.op (d := 6) (.bool false) (k := ?_)
        refine WL.nil ?_
        refine WX.nxtL ?_
        refine WA.done (k := ?_)
        clear KC
        refine WX.seqN ?_
        refine WC.ret ?_
        refine WX.ret (rs := [.tmp 6]) [.bool false] (.bool false) ⟨(by kernel_rfl), trivial⟩ (k := ?_)
        exfalso; first | omega | (simp at *; omega)
    · have ph56 := of_decide_eq_false h56
      refine WL.callG (d := 46) (f := 11) (args := #[.pointer (some ⟨b15, 0, none⟩), .string ⟨(List.take 43 a).toArray⟩]) (wlAppend_full (l := List.take 43 a) hb34 hd51 n33 (by show List.length (List.take 43 a) ≤ 43; first | omega | (simp; done) | (simp; omega)) (by omega)) (k := fun e_ w126 h_ => ⟨.int .i64 22, h_.1, ?_⟩)
      have k127 := h_.2; clear h_
      replace hd51 := hd51.adds k127
      replace hb34 := k127.heap hb34 id
      replace K := K.trans (k127.any _)
      refine WL.op (d := 12) (.int .i64 22) (k := ?_)
      refine WL.nil ?_
      refine WX.seqN ?_
      refine WC.seq ?_
      refine WC.region ?_
      refine WL.op (d := 47) (.pointer (some ⟨b4, 0, none⟩)) (k := ?_)
      refine WL.callG (d := 48) (f := 14) (args := #[.pointer (some ⟨b4, 0, none⟩), .slice none 0 0]) (dCrash_c (fs := []) (cf := 0) hd51 SlAt.nil (fun h => absurd rfl h) (by simp)) (k := fun e_ w128 h_ => ?_)
      obtain ⟨rfl, S129, hd131, lk130, k132⟩ := h_
      refine ⟨_, rfl, ?_⟩
      have n133 : ¬ S129 b15 := fun h => (lk130 _ h).elim n33 (fun h2 => absurd (lt_of_heap hb34) (Nat.not_lt.2 h2))
      have lk134 := lk_step lk32 lk130 K
      replace hb34 := k132.heap hb34 n33
      replace K := K.trans' k132 (fun i hi e => (lk32 i e).elim (fun h => h.elim) (fun h => absurd hi (Nat.not_lt.2 h)))
      clear hd51
      change DiskAt S129 b4 (⟨sc, [], 0, 0⟩ : GDisk) w128 at hd131
      refine WL.nil ?_
      refine WX.seqN ?_
      refine WC.seq ?_
      refine WC.region ?_
      refine WL.op (d := 50) (.pointer (some ⟨b15, 0, none⟩)) (k := ?_)
      obtain ⟨r135, hs136⟩ := LayE.scan hl (by decide) (by omega) 0
      refine WL.callG (d := 51) (f := 15) (args := #[.pointer (some ⟨b15, 0, none⟩), .int .u64 3]) (wlScan_good (e := 3) (xs := xs) hb34 hd131 n133 (by decide) (by decide) (by decide) (by omega) (by omega) hs136) (k := fun e_ w137 h_ => ?_)
      obtain ⟨A138, c139, rfl, hb140, ho141, ol142, hd143, n144, k145⟩ := h_
      refine ⟨_, rfl, ?_⟩
      have ol146 := fun i h => Nat.le_trans K.size (ol142 i h)
      replace K := K.trans' k145 (fun i hi e => e.elim (fun e => absurd (e ▸ hi) (Nat.not_lt.2 z19)) (fun e => (lk134 i e).elim (fun h => h.elim) (fun h => absurd hi (Nat.not_lt.2 h))))
      clear hb34 hd131 ol142
      refine WL.op (d := 49) (.tuple #[.slice A138 (List.length xs) c139, .int .i64 0]) (k := ?_)
      refine WL.op (d := 52) (.slice A138 (List.length xs) c139) (k := ?_)
      refine WL.op (d := 53) (.int .i64 0) (k := ?_)
      refine WL.op (d := 13) (.slice A138 (List.length xs) c139) (k := ?_)
      refine WL.op (d := 14) (.int .i64 0) (k := ?_)
      refine WL.nil ?_
      refine WX.seqN ?_
      refine WC.seq ?_
      refine WC.region ?_
      refine WL.op (d := 54) (.pointer (some ⟨b15, 0, none⟩)) (k := ?_)
      refine WL.op (d := 55) (.string ⟨(b_).toArray⟩) (k := ?_)
      refine WL.callG (d := 56) (f := 13) (args := #[.string ⟨(b_).toArray⟩, .int .i64 43]) (l07short_t b_ 43 (by omega) (by omega) w137) (k := fun e_ w148 h_ => ⟨.string ⟨(List.take 43 b_).toArray⟩, h_.1, ?_⟩)
      have k149 := h_.2; clear h_
      replace hd143 := hd143.adds k149
      replace hb140 := k149.heap hb140 id
      replace ho141 := ho141.adds k149
      replace K := K.trans (k149.any _)
      have tl147 : (List.take 43 b_).length ≤ 43 := by simp; omega
      refine WL.callG (d := 57) (f := 11) (args := #[.pointer (some ⟨b15, 0, none⟩), .string ⟨(List.take 43 b_).toArray⟩]) (wlAppend_full (l := List.take 43 b_) hb140 hd143 n133 (by show List.length (List.take 43 b_) ≤ 43; first | omega | (simp; done) | (simp; omega)) (by omega)) (k := fun e_ w150 h_ => ⟨.int .i64 22, h_.1, ?_⟩)
      have k151 := h_.2; clear h_
      replace hd143 := hd143.adds k151
      replace hb140 := k151.heap hb140 id
      replace ho141 := ho141.adds k151
      replace K := K.trans (k151.any _)
      refine WL.op (d := 15) (.int .i64 22) (k := ?_)
      refine WL.nil ?_
      refine WX.seqN ?_
      refine WC.seq ?_
      refine WC.region ?_
      refine WL.op (d := 59) (.pointer (some ⟨b15, 0, none⟩)) (k := ?_)
      obtain ⟨r152, hs153⟩ := LayE.scan hl (by decide) (by omega) r135
      refine WL.callG (d := 60) (f := 15) (args := #[.pointer (some ⟨b15, 0, none⟩), .int .u64 3]) (wlScan_good (e := 3) (xs := xs) hb140 hd143 n133 (by decide) (by decide) (by decide) (by omega) (by omega) hs153) (k := fun e_ w154 h_ => ?_)
      obtain ⟨A155, c156, rfl, hb157, ho158, ol159, hd160, n161, k162⟩ := h_
      refine ⟨_, rfl, ?_⟩
      have ol163 := fun i h => Nat.le_trans K.size (ol159 i h)
      replace K := K.trans' k162 (fun i hi e => e.elim (fun e => absurd (e ▸ hi) (Nat.not_lt.2 z19)) (fun e => (lk134 i e).elim (fun h => h.elim) (fun h => absurd hi (Nat.not_lt.2 h))))
      replace ho141 := ho141.keeps k162 (fun i hi h => h.elim (fun h => (ho141.offT hb140 (by decide)) (h ▸ hi)) (n144 i hi))
      clear hb140 hd143 ol159
      refine WL.op (d := 58) (.tuple #[.slice A155 (List.length xs) c156, .int .i64 0]) (k := ?_)
      refine WL.op (d := 61) (.slice A155 (List.length xs) c156) (k := ?_)
      refine WL.op (d := 62) (.int .i64 0) (k := ?_)
      refine WL.op (d := 16) (.slice A155 (List.length xs) c156) (k := ?_)
      refine WL.op (d := 17) (.int .i64 0) (k := ?_)
      refine WL.nil ?_
      refine WX.seqN ?_
      refine WC.seq ?_
      refine WC.mixed (fun _ => False) 39 (k := fun w164 k165 => ?_)
      replace hd160 := hd160.adds k165
      replace hb157 := k165.heap hb157 id
      replace ho141 := ho141.adds k165
      replace ho158 := ho158.adds k165
      replace K := K.trans (k165.any _)
      have KC := Keeps.refl (fun _ => False) w164
      have bh166 := hb157
      have Kb := K
      refine WA.quiet 0 (d := 63) (.bool true) KC (hi := rfl) (k := ?_)
      refine WA.quiet 1 (d := 64) (.bool true) KC (hi := rfl) (k := ?_)
      refine WA.quiet 2 (d := 65) (.int .i64 22) KC (hi := rfl) (k := ?_)
      refine WA.quiet 3 (d := 66) (.bool false) KC (hi := rfl) (k := ?_)
      refine WA.quiet 4 (d := 67) (.bool false) KC (hi := rfl) (k := ?_)
      refine WA.quiet 5 (d := 68) (.bool false) KC (hi := rfl) (k := ?_)
      refine WA.quietS 6 (d := 69) KC (hi := rfl) (k := ?_)
      refine WA.quietS 7 (d := 70) KC (hi := rfl) (k := ?_)
      refine WA.quiet 8 (d := 71) (.bool false) KC (hi := rfl) (k := ?_)
      refine WA.quiet 9 (d := 72) (.bool false) KC (hi := rfl) (k := ?_)
      refine WA.quietS 10 (d := 73) KC (hi := rfl) (k := ?_)
      refine WA.quietS 11 (d := 74) KC (hi := rfl) (k := ?_)
      refine WA.quietS 12 (d := 75) KC (hi := rfl) (k := ?_)
      refine WA.quietS 13 (d := 76) KC (hi := rfl) (k := ?_)
      refine WA.quiet 14 (d := 77) (.bool false) KC (hi := rfl) (k := ?_)
      refine WA.quiet 15 (d := 78) (.bool false) KC (hi := rfl) (k := ?_)
      refine WA.quietS 16 (d := 79) KC (hi := rfl) (k := ?_)
      refine WA.quietS 17 (d := 80) KC (hi := rfl) (k := ?_)
      refine WA.quiet 18 (d := 81) (.bool false) KC (hi := rfl) (k := ?_)
      refine WA.quiet 19 (d := 82) (.bool false) KC (hi := rfl) (k := ?_)
      refine WA.quietS 20 (d := 83) KC (hi := rfl) (k := ?_)
      refine WA.quietS 21 (d := 84) KC (hi := rfl) (k := ?_)
      refine WA.quiet 22 (d := 85) (.bool false) KC (hi := rfl) (k := ?_)
      refine WA.quiet 23 (d := 86) (.bool false) KC (hi := rfl) (k := ?_)
      refine WA.quietS 24 (d := 87) KC (hi := rfl) (k := ?_)
      refine WA.quietS 25 (d := 88) KC (hi := rfl) (k := ?_)
      refine WA.quietS 26 (d := 89) KC (hi := rfl) (k := ?_)
      refine WA.quietS 27 (d := 90) KC (hi := rfl) (k := ?_)
      refine WA.quietS 28 (d := 91) KC (hi := rfl) (k := ?_)
      refine WA.quiet 29 (d := 92) (.bool false) KC (hi := rfl) (k := ?_)
      refine WA.quiet 30 (d := 93) (.bool false) KC (hi := rfl) (k := ?_)
      refine WA.quietS 31 (d := 94) KC (hi := rfl) (k := ?_)
      refine WA.quietS 32 (d := 95) KC (hi := rfl) (k := ?_)
      refine WA.quietS 33 (d := 96) KC (hi := rfl) (k := ?_)
      refine WA.quietS 34 (d := 97) KC (hi := rfl) (k := ?_)
      refine WA.quietS 35 (d := 98) KC (hi := rfl) (k := ?_)
      refine WA.step 36 (hi := rfl) (k := ?_)
      refine WL.skip (d := 99) (k := ?_)
      refine WL.nil ?_
      refine WX.nxt KC ?_
      refine WA.quietS 37 (d := 100) KC (hi := rfl) (k := ?_)
      refine WA.quiet 38 (d := 101) (.bool false) KC (hi := rfl) (k := ?_)
      refine WA.step 39 (hi := rfl) (k := ?_)
      refine WL.op (d := 6) (.bool false) (k := ?_)
      refine WL.nil ?_
      refine WX.nxtL ?_
      refine WA.done (k := ?_)
      clear KC
      refine WX.seqN ?_
      refine WC.ret ?_
      refine WX.ret (rs := [.tmp 6]) [.bool false] (.bool false) ⟨(by kernel_rfl), trivial⟩ (k := ?_)
      exfalso; first | omega | (simp at *; omega)

end Go.Proofs.YtdoenmokahbeaaaGreatDoor
