/- Frames: a text's parts. -/
import Derived.Test.YtdoenmokahbeaaaGreatDoorFr6
namespace Go.Proofs.YtdoenmokahbeaaaGreatDoor
open Go.RowKit
set_option linter.unusedVariables false
set_option linter.unusedSimpArgs false

set_option maxRecDepth 100000 in
set_option maxHeartbeats 4000000 in
theorem fChunks_c {l : List UInt8} (hm : l.length ≤ 1000000) (w : World) : Calls Tryz.prog 63 #[.string ⟨l.toArray⟩] w fun e w' => ∃ A c, e = .returned (.slice A (chunks l).length c) ∧ OwAt strC 1 9 A c (chunks l) w' ∧ Adds w w' ∧ (∀ i, blk A = some i → w.heap.size ≤ i) := by
  have K : Keeps (fun _ => False) w w := Keeps.refl _ w
  refine Calls.start Tryz.func63 rfl (by kernel_rfl) ?_
  refine WC.seq ?_
  refine WC.region ?_
  refine WL.op (d := 2) (.slice none 0 0) (k := ?_)
  refine WL.nil ?_
  refine WX.seqN ?_
  refine WC.scope ?_
  refine WC.seq ?_
  refine WC.region ?_
  refine WL.op (d := 3) (.slice none 0 0) (k := ?_)
  refine WL.nil ?_
  refine WX.seqN ?_
  refine WC.seq ?_
  refine WC.label ?_
  refine WX.seqN ?_
  refine WC.seq ?_
  refine WC.block ?_
  refine WC.loop (ι := (List (List UInt8)) × (List UInt8) × (Option Addr) × Nat) (fun (⟨done, rest, Ao, co⟩ : (List (List UInt8)) × (List UInt8) × (Option Addr) × Nat) => [(2, .slice none 0 0), (0, .string ⟨(rest).toArray⟩), (3, .slice Ao done.length co)]) (fun (⟨done, rest, Ao, co⟩ : (List (List UInt8)) × (List UInt8) × (Option Addr) × Nat) (w_ : World) => (Keeps (fun _ => False) w w_) ∧ (OwAt strC 1 9 Ao co done w_) ∧ (∀ i, blk Ao = some i → w.heap.size ≤ i) ∧ (chunks l = done ++ chunks rest) ∧ (43 * done.length + rest.length = l.length)) (fun (⟨done, rest, Ao, co⟩ : (List (List UInt8)) × (List UInt8) × (Option Addr) × Nat) => (List.length rest)) ([], l, none, 0) ⟨(by kernel_rfl), (by kernel_rfl), (by kernel_rfl), trivial⟩ ⟨K, OwAt.nil, (by simp [blk]), rfl, (by simp)⟩ ?_
  rintro ⟨done, rest, Ao, co⟩ w1 ⟨K, hb2, ol3, hc, hl⟩
  have ld_ : (List.drop 43 rest).length = rest.length - 43 := List.length_drop
  refine WC.block ?_
  refine WC.seq ?_
  refine WC.seq ?_
  refine WC.region ?_
  refine WL.op (d := 4) (.string ⟨(rest).toArray⟩) (k := ?_)
  refine WL.op (d := 5) (.int .i64 (rest.length : Int)) (k := ?_)
  refine WL.op (d := 6) (.bool (decide ((rest.length : Int) ≤ 43))) (k := ?_)
  refine WL.nil ?_
  refine WX.seqN ?_
  refine WC.cond (b := decide ((rest.length : Int) ≤ 43)) (ht := fun h4 => ?_) (hf := fun h4 => ?_)
  · have ph4 := of_decide_eq_true h4
    refine WC.exit ?_
    refine WX.seqE ?_
    refine WX.blockO (by kernel_rfl) ?_
    refine WX.seqE ?_
    refine WX.blockE ?_
    refine WX.seqN ?_
    refine WC.seq ?_
    refine WC.region ?_
    refine WL.op (d := 14) (.slice Ao done.length co) (k := ?_)
    refine WL.op (d := 15) (.string ⟨(rest).toArray⟩) (k := ?_)
    refine WL.newF (d := 16) (T := 9) #[.string ⟨(rest).toArray⟩] (fun b => .slice (some ⟨b, 0, none⟩) 1 1) (k := fun b5 w6 g7 hb8 k9 => ?_)
    have z10 := Nat.le_trans K.size g7
    replace hb2 := hb2.adds k9
    replace K := K.trans (k9.any _)
    refine WL.append (d := 17) (T := 34) (cl := strC) (xs := done) (ys := [rest]) (c := 1) ekStr hb2 (SlAt.of_lit (ys := [rest]) ekStr hb8 (by kernel_rfl)) (by first | omega | (simp; omega)) (k := fun A11 c12 w13 ho14 k15 n16 => ?_)
    have ol17 := olink_step ol3 K n16
    replace K := K.trans' k15 (fun i hi e => absurd hi (Nat.not_lt.2 (ol3 i e)))
    clear hb2
    refine WL.op (d := 2) (.slice A11 ((done ++ [rest]).length) c12) (k := ?_)
    refine WL.nil ?_
    refine WX.seqN ?_
    refine WC.ret ?_
    refine WX.scopeR ?_
    refine WX.ret (rs := [.tmp 2]) [.slice A11 ((done ++ [rest]).length) c12] (.slice A11 ((done ++ [rest]).length) c12) ⟨(by kernel_rfl), trivial⟩ (k := ?_)
    have e_ : done ++ [rest] = chunks l := by rw [hc, chunks_le (by omega)]
    rw [e_] at ho14 ⊢
    exact ⟨_, _, rfl, ho14, K, ol17⟩
  · have ph4 := of_decide_eq_false h4
    refine WC.skip ?_
    refine WX.seqN ?_
    refine WC.seq ?_
    refine WC.region ?_
    refine WL.op (d := 7) (.slice Ao done.length co) (k := ?_)
    refine WL.op (d := 8) (.string ⟨(rest).toArray⟩) (k := ?_)
    refine WL.cut (d := 9) (vx := .string ⟨(rest).toArray⟩) (lo' := none) (hi' := (some (.int .i64 43))) (mx' := none) (v := .string ⟨(List.take 43 rest).toArray⟩) (run_cut (P := Tryz.prog) (w := w1) (lo := none) (hi := (some (.int .i64 43))) (T := 9) (a := 0) (b := 43) (l := rest) (by kernel_rfl) (.inl ⟨rfl, rfl⟩) (.inr ⟨_, _, rfl, by omega⟩) (by first | omega | (simp; omega)) (by first | omega | (simp; omega))) (k := ?_)
    refine WL.newF (d := 10) (T := 9) #[.string ⟨(List.take 43 rest).toArray⟩] (fun b => .slice (some ⟨b, 0, none⟩) 1 1) (k := fun b18 w19 g20 hb21 k22 => ?_)
    have z23 := Nat.le_trans K.size g20
    replace hb2 := hb2.adds k22
    replace K := K.trans (k22.any _)
    refine WL.append (d := 11) (T := 34) (cl := strC) (xs := done) (ys := [List.take 43 rest]) (c := 1) ekStr hb2 (SlAt.of_lit (ys := [List.take 43 rest]) ekStr hb21 (by kernel_rfl)) (by first | omega | (simp; omega)) (k := fun A24 c25 w26 ho27 k28 n29 => ?_)
    have ol30 := olink_step ol3 K n29
    replace K := K.trans' k28 (fun i hi e => absurd hi (Nat.not_lt.2 (ol3 i e)))
    clear hb2
    refine WL.op (d := 3) (.slice A24 ((done ++ [List.take 43 rest]).length) c25) (k := ?_)
    refine WL.nil ?_
    refine WX.seqN ?_
    refine WC.region ?_
    refine WL.op (d := 12) (.string ⟨(rest).toArray⟩) (k := ?_)
    refine WL.cut (d := 13) (vx := .string ⟨(rest).toArray⟩) (lo' := (some (.int .i64 43))) (hi' := none) (mx' := none) (v := .string ⟨(List.drop 43 rest).toArray⟩) ((by have h_ := run_cut (P := Tryz.prog) (w := w26) (lo := (some (.int .i64 43))) (hi := none) (T := 9) (a := 43) (b := rest.length) (l := rest) (by kernel_rfl) (.inr ⟨_, _, rfl, by omega⟩) (.inl ⟨rfl, rfl⟩) (by first | omega | (simp; omega)) (by first | omega | (simp; omega)); rw [List.take_length] at h_; exact h_)) (k := ?_)
    refine WL.op (d := 0) (.string ⟨(List.drop 43 rest).toArray⟩) (k := ?_)
    refine WL.nil ?_
    refine WX.blockN ?_
    refine WX.round (done ++ [List.take 43 rest], List.drop 43 rest, A24, c25) (by show (List.length (List.drop 43 rest)) < (List.length rest); omega) ⟨(by kernel_rfl), (by kernel_rfl), (by kernel_rfl), trivial⟩ ⟨K, ho27, ol30, (by rw [hc, chunks_gt (s := rest) (by omega)]; simp), (by simp; omega)⟩

set_option maxRecDepth 100000 in
set_option maxHeartbeats 4000000 in
theorem u04Same_c {A B : Option Addr} {cp cq : Nat} {xs ys : List (List UInt8)} {w : World} (hA : SlAt strC 1 9 A xs w) (hB : SlAt strC 1 9 B ys w) (hn : xs.length ≤ 1000000000) (hm : ys.length ≤ 1000000000) : Calls Tryz.prog 16 #[.slice A xs.length cp, .slice B ys.length cq] w fun e w' => e = .returned (.bool (decide (xs = ys))) ∧ Adds w w' := by
  have K : Keeps (fun _ => False) w w := Keeps.refl _ w
  refine Calls.start Tryz.func16 rfl (by kernel_rfl) ?_
  refine WC.seq ?_
  refine WC.region ?_
  refine WL.op (d := 4) (.bool false) (k := ?_)
  refine WL.nil ?_
  refine WX.seqN ?_
  refine WC.seq ?_
  refine WC.seq ?_
  refine WC.region ?_
  refine WL.op (d := 6) (.slice A xs.length cp) (k := ?_)
  refine WL.op (d := 7) (.int .i64 (xs.length : Int)) (k := ?_)
  refine WL.op (d := 8) (.slice B ys.length cq) (k := ?_)
  refine WL.op (d := 9) (.int .i64 (ys.length : Int)) (k := ?_)
  refine WL.op (d := 10) (.bool ((xs.length : Int) != (ys.length : Int))) (k := ?_)
  refine WL.nil ?_
  refine WX.seqN ?_
  refine WC.cond (b := (xs.length : Int) != (ys.length : Int)) (ht := fun h1 => ?_) (hf := fun h1 => ?_)
  · have ph1 := bne_iff_ne.1 h1
    refine WC.seq ?_
    refine WC.region ?_
    refine WL.op (d := 4) (.bool false) (k := ?_)
    refine WL.nil ?_
    refine WX.seqN ?_
    refine WC.ret ?_
    refine WX.seqR ?_
    refine WX.ret (rs := [.tmp 4]) [.bool false] (.bool false) ⟨(by kernel_rfl), trivial⟩ (k := ?_)
    exact ⟨ret_bool (eqU_len (by omega)), K⟩
  · have ph1 := of_bne_false h1
    refine WC.skip ?_
    refine WX.seqN ?_
    refine WC.seq ?_
    refine WC.seq ?_
    refine WC.region ?_
    refine WL.op (d := 5) (.int .i64 0) (k := ?_)
    refine WL.nil ?_
    refine WX.seqN ?_
    refine WC.block ?_
    refine WC.loop (ι := Int) (fun (i : Int) => [(0, .slice A xs.length cp), (1, .slice B ys.length cq), (6, .slice A xs.length cp), (7, .int .i64 (xs.length : Int)), (8, .slice B ys.length cq), (9, .int .i64 (ys.length : Int)), (10, .bool ((xs.length : Int) != (ys.length : Int))), (5, .int .i64 i)]) (fun (i : Int) (w_ : World) => (Keeps (fun _ => False) w w_) ∧ (0 ≤ i) ∧ (i ≤ xs.length) ∧ (eqU xs ys i)) (fun (i : Int) => (xs.length - i).toNat) 0 ⟨(by kernel_rfl), (by kernel_rfl), (by kernel_rfl), (by kernel_rfl), (by kernel_rfl), (by kernel_rfl), (by kernel_rfl), (by kernel_rfl), trivial⟩ ⟨K, Int.le_refl 0, (by omega), eqU_zero _ _⟩ ?_
    rintro i w2 ⟨K, i0, i1, iu⟩
    refine WC.seq ?_
    refine WC.seq ?_
    refine WC.region ?_
    refine WL.op (d := 11) (.int .i64 i) (k := ?_)
    refine WL.op (d := 12) (.slice A xs.length cp) (k := ?_)
    refine WL.op (d := 13) (.int .i64 (xs.length : Int)) (k := ?_)
    refine WL.op (d := 14) (.bool (decide (i < (xs.length : Int)))) (k := ?_)
    refine WL.nil ?_
    refine WX.seqN ?_
    refine WC.cond (b := decide (i < (xs.length : Int))) (ht := fun h3 => ?_) (hf := fun h3 => ?_)
    · have ph3 := of_decide_eq_true h3
      refine WC.skip ?_
      refine WX.seqN ?_
      refine WC.seq ?_
      refine WC.block ?_
      refine WC.seq ?_
      refine WC.quiet (k := ?_)
      refine WQ.op (d := 17) (.slice A xs.length cp) (k := ?_)
      refine WQ.op (d := 18) (.int .i64 i) (k := ?_)
      obtain ⟨b4, o5, r6, hr7, hA8, he9⟩ := SlAt.at hA (i := i) (by omega) (by omega)
      refine WQ.rw (t := 17) (v := .slice (some ⟨b4, o5, none⟩) xs.length cp) (congrArg (fun a => Value.slice a xs.length cp) hA8) (k := ?_)
      refine WQ.idx (T := 34) (E := 9) (m := 1) (b := b4) (o := o5) (len := xs.length) (cap := cp) (i := i) (kk := .i64) (d := 19) (by omega) (by omega) (k := ?_)
      refine WQ.rw (t := 17) (v := .slice A xs.length cp) (congrArg (fun a => Value.slice a xs.length cp) (Eq.symm hA8)) (k := ?_)
      refine WQ.load (v := .string ⟨(r6).toArray⟩) (fun w_ k_ => ((he9.adds K).adds k_).ld0 (T := 9)) (k := ?_)
      refine WQ.op (d := 21) (.slice B ys.length cq) (k := ?_)
      refine WQ.op (d := 22) (.int .i64 i) (k := ?_)
      obtain ⟨b10, o11, r12, hr13, hA14, he15⟩ := SlAt.at hB (i := i) (by omega) (by omega)
      refine WQ.rw (t := 21) (v := .slice (some ⟨b10, o11, none⟩) ys.length cq) (congrArg (fun a => Value.slice a ys.length cq) hA14) (k := ?_)
      refine WQ.idx (T := 34) (E := 9) (m := 1) (b := b10) (o := o11) (len := ys.length) (cap := cq) (i := i) (kk := .i64) (d := 23) (by omega) (by omega) (k := ?_)
      refine WQ.rw (t := 21) (v := .slice B ys.length cq) (congrArg (fun a => Value.slice a ys.length cq) (Eq.symm hA14)) (k := ?_)
      refine WQ.load (v := .string ⟨(r12).toArray⟩) (fun w_ k_ => ((he15.adds K).adds k_).ld0 (T := 9)) (k := ?_)
      refine WQ.opE (d := 25) (.bool !(ByteArray.toList ⟨(r6).toArray⟩ == ByteArray.toList ⟨(r12).toArray⟩)) (v := .bool (!(decide (r6 = r12)))) (str_neq _ _) (k := ?_)
      refine WQ.nilX (fun w16 k17 => ?_)
      replace K := K.trans (k17.any _)
      refine WX.seqN ?_
      refine WC.cond (b := !(decide (r6 = r12))) (ht := fun h18 => ?_) (hf := fun h18 => ?_)
      · have h19 : (decide (r6 = r12)) = false := Bool.not_inj (y := false) h18
        have ph19 := of_decide_eq_false h19
        refine WC.seq ?_
        refine WC.region ?_
        refine WL.op (d := 4) (.bool false) (k := ?_)
        refine WL.nil ?_
        refine WX.seqN ?_
        refine WC.ret ?_
        refine WX.blockR ?_
        refine WX.seqR ?_
        refine WX.seqR ?_
        refine WX.blockR ?_
        refine WX.seqR ?_
        refine WX.ret (rs := [.tmp 4]) [.bool false] (.bool false) ⟨(by kernel_rfl), trivial⟩ (k := ?_)
        exact ⟨ret_bool (eqU_bad hr7 hr13 ph19), K⟩
      · have h20 : (decide (r6 = r12)) = true := Bool.not_inj (y := true) h18
        have ph20 := of_decide_eq_true h20
        refine WC.skip ?_
        refine WX.blockN ?_
        refine WX.seqN ?_
        refine WC.region ?_
        refine WL.op (d := 15) (.int .i64 i) (k := ?_)
        refine WL.opE (d := 16) (.int .i64 (IntKind.i64.wrap (i + 1))) (v := .int .i64 (i + 1)) (congrArg (Value.int .i64) (IntWalk.i64_in _ (by omega))) (k := ?_)
        refine WL.op (d := 5) (.int .i64 (i + 1)) (k := ?_)
        refine WL.nil ?_
        refine WX.round (i + 1) (by show (xs.length - (i + 1)).toNat < (xs.length - i).toNat; omega) ⟨(by kernel_rfl), (by kernel_rfl), (by kernel_rfl), (by kernel_rfl), (by kernel_rfl), (by kernel_rfl), (by kernel_rfl), (by kernel_rfl), trivial⟩ ⟨K, (by omega), (by omega), (eqU_succ i0 iu hr7 hr13 ph20)⟩
    · have ph3 := of_decide_eq_false h3
      refine WC.exit ?_
      refine WX.seqE ?_
      refine WX.seqE ?_
      refine WX.blockE ?_
      refine WX.seqN ?_
      refine WC.seq ?_
      refine WC.region ?_
      refine WL.op (d := 4) (.bool true) (k := ?_)
      refine WL.nil ?_
      refine WX.seqN ?_
      refine WC.ret ?_
      refine WX.ret (rs := [.tmp 4]) [.bool true] (.bool true) ⟨(by kernel_rfl), trivial⟩ (k := ?_)
      exact ⟨ret_bool (eqU_end (i := i) (by omega) (by omega) iu), K⟩

theorem chunks_mem : ∀ {l x : List UInt8}, x ∈ chunks l → x.length ≤ 43 := by
  intro l
  induction h : l.length using Nat.strongRecOn generalizing l with
  | _ n ih =>
    intro x hx
    by_cases h43 : l.length ≤ 43
    · rw [chunks_le h43, List.mem_singleton] at hx; rw [hx]; exact h43
    · rw [chunks_gt h43, List.mem_cons] at hx
      rcases hx with rfl | hx
      · simp; omega
      · exact ih (l.drop 43).length (by simp; omega) rfl hx
theorem chunks_pos (l : List UInt8) : 0 < (chunks l).length := by
  by_cases h43 : l.length ≤ 43
  · rw [chunks_le h43]; simp
  · rw [chunks_gt h43]; simp
theorem chunks_flat : ∀ {l : List UInt8}, (chunks l).flatten = l := by
  intro l
  induction h : l.length using Nat.strongRecOn generalizing l with
  | _ n ih =>
    by_cases h43 : l.length ≤ 43
    · rw [chunks_le h43]; simp
    · rw [chunks_gt h43, List.flatten_cons, ih (l.drop 43).length (by simp; omega) rfl, List.take_append_drop]
theorem chunks_len : ∀ {l : List UInt8}, (chunks l).length ≤ l.length + 1 := by
  intro l
  induction h : l.length using Nat.strongRecOn generalizing l with
  | _ n ih =>
    by_cases h43 : l.length ≤ 43
    · rw [chunks_le h43]; simp
    · rw [chunks_gt h43, List.length_cons]
      have := ih (l.drop 43).length (by simp; omega) rfl
      simp at this; omega
theorem chunks_full : ∀ {l : List UInt8} {i : Nat} {x : List UInt8}, (chunks l)[i]? = some x → i + 1 < (chunks l).length → x.length = 43 := by
  intro l
  induction h : l.length using Nat.strongRecOn generalizing l with
  | _ n ih =>
    intro i x hx hi
    by_cases h43 : l.length ≤ 43
    · rw [chunks_le h43] at hi; simp at hi
    · rw [chunks_gt h43] at hx hi
      match i with
      | 0 => simp at hx; rw [← hx]; simp; omega
      | i + 1 => exact ih (l.drop 43).length (by simp; omega) rfl (i := i) (by simpa using hx) (by simpa using hi)
theorem chunks_some : ∀ {l : List UInt8} {i : Nat} {x : List UInt8}, (chunks l)[i]? = some x → (0 < i ∨ l ≠ []) → x ≠ [] := by
  intro l
  induction h : l.length using Nat.strongRecOn generalizing l with
  | _ n ih =>
    intro i x hx hi
    by_cases h43 : l.length ≤ 43
    · rw [chunks_le h43] at hx
      match i with
      | 0 =>
        simp at hx; rw [← hx]
        rcases hi with hi | hi
        · omega
        · exact hi
      | i + 1 => simp at hx
    · rw [chunks_gt h43] at hx
      match i with
      | 0 =>
        simp at hx; rw [← hx]; intro e
        have e2 : (l.take 43).length = 0 := by rw [e]; rfl
        rw [List.length_take] at e2; omega
      | i + 1 =>
        refine ih (l.drop 43).length (by simp; omega) rfl (i := i) (by simpa using hx) (.inr fun e => ?_)
        have e2 : (l.drop 43).length = 0 := by rw [e]; rfl
        rw [List.length_drop] at e2; omega

end Go.Proofs.YtdoenmokahbeaaaGreatDoor
