/- OctetReads, walked. -/
import Derived.Test.YtbfclkjbgicncaaWk3c
namespace Go.Proofs.Ytbfclkjbgicncaa
open Go.RowKit
set_option linter.unusedVariables false
attribute [local go_sem] str_get str_cut run_str1 str_app str_app1 str_app0

theorem rEnd_q (b : Nat) (st : Option (List UInt8)) (w : World) (n : Nat) (h : RdAt b st w) :
    Calls Try.prog 30 #[.pointer (some ⟨b, 0, none⟩)] (w.drewN n) fun e w' => e = .returned (.bool (decide (st = some []))) ∧ ∃ m, w' = w.drewN m :=
  (rEnd_any b st _ (h.drewN n)).mono fun _ _ ⟨x, y⟩ => ⟨x, n, y.symm⟩
theorem rLeft_q (b : Nat) (st : Option (List UInt8)) (hl : stLen st ≤ 1000000000) (w : World) (n : Nat) (h : RdAt b st w) :
    Calls Try.prog 22 #[.pointer (some ⟨b, 0, none⟩)] (w.drewN n) fun e w' => e = .returned (.int .i64 (stLen st)) ∧ ∃ m, w' = w.drewN m :=
  (rLeft_any b st hl _ (h.drewN n)).mono fun _ _ ⟨x, y⟩ => ⟨x, n, y.symm⟩
theorem qEnd_q (b : Nat) (st : Option (List UInt8)) (w : World) (n : Nat) (h : QrAt b st w) :
    Calls Try.prog 31 #[.pointer (some ⟨b, 0, none⟩)] (w.drewN n) fun e w' => e = .returned (.bool (decide (st = some []))) ∧ ∃ m, w' = w.drewN m :=
  (qEnd_any b st _ (h.drewN n)).mono fun _ _ ⟨x, y⟩ => ⟨x, n, y.symm⟩
theorem qLeft_q (b : Nat) (st : Option (List UInt8)) (hl : stLen st ≤ 1000000000) (w : World) (n : Nat) (h : QrAt b st w) :
    Calls Try.prog 32 #[.pointer (some ⟨b, 0, none⟩)] (w.drewN n) fun e w' => e = .returned (.int .i64 (stLen st)) ∧ ∃ m, w' = w.drewN m :=
  (qLeft_any b st hl _ (h.drewN n)).mono fun _ _ ⟨x, y⟩ => ⟨x, n, y.symm⟩
theorem RdAt.drew {b : Nat} {st : Option (List UInt8)} {w : World} (h : RdAt b st w) : RdAt b st w.drew := h.drewN 1
theorem QrAt.drew {b : Nat} {st : Option (List UInt8)} {w : World} (h : QrAt b st w) : QrAt b st w.drew := h.drewN 1

set_option maxRecDepth 100000 in
set_option maxHeartbeats 4000000 in
theorem OctetReads_walk (x0 : ByteArray) (sa1 : Option Addr) (sl1 sc1 : Nat) (w : World) (h0 : IsStr [.string x0]) (h1 : IsSl 4 (fun w c => IsCall w c) w [.slice sa1 sl1 sc1]) :
    Calls Try.prog 5 #[.string x0, .slice sa1 sl1 sc1] w fun e w' => e = .returned (.bool true) ∧ Below w.heap.size w w' := by
  have hcells : ∃ a : Addr, ∀ i, i < sl1 → sa1 = some a ∧ ∃ (k : Int) (n : Nat) (s : List UInt8) (m : Int), (-9223372036854775808 ≤ k ∧ k ≤ 9223372036854775807 ∧ n < 18446744073709551616 ∧ -9223372036854775808 ≤ m ∧ m ≤ 9223372036854775807) ∧
      w.cell? (a.add (i * 4)) = some (.int .i64 k) ∧ w.cell? ⟨(a.add (i * 4)).block, (a.add (i * 4)).off + 1, none⟩ = some (.int .u64 n) ∧ w.cell? ⟨(a.add (i * 4)).block, (a.add (i * 4)).off + 2, none⟩ = some (.string ⟨s.toArray⟩) ∧ w.cell? ⟨(a.add (i * 4)).block, (a.add (i * 4)).off + 3, none⟩ = some (.int .i64 m) := by
    rcases h1 with h0 | ⟨a, len, cap, h0, _, _, hi⟩
    · simp only [List.cons.injEq, Value.slice.injEq, and_true] at h0
      exact ⟨⟨0, 0, none⟩, fun i hi => by omega⟩
    · simp only [List.cons.injEq, Value.slice.injEq, and_true] at h0
      obtain ⟨rfl, rfl, rfl⟩ := h0
      refine ⟨a, fun i him => ⟨rfl, ?_⟩⟩
      obtain ⟨es, _, hes, hc⟩ := hi i him
      obtain ⟨k, n, s, m, rfl, hb⟩ := isCall hc
      exact ⟨k, n, s, m, hb, hes 0 (by omega), hes 1 (by omega), hes 2 (by omega), hes 3 (by omega)⟩
  have hcap : sl1 ≤ 9223372036854775807 := by
    rcases h1 with h0 | ⟨a, len, cap, h0, h1, h2, hi⟩
    · simp only [List.cons.injEq, Value.slice.injEq, and_true] at h0
      omega
    · simp only [List.cons.injEq, Value.slice.injEq, and_true] at h0
      unfold maxLen at h2
      omega
  clear h0 h1
  obtain ⟨l0, rfl⟩ := str_of x0
  obtain ⟨a, hcells⟩ := hcells
  have HC := Lib.hid hcells
  clear hcells
  have hl0 : (l0.take 120).length ≤ 120 := by rw [List.length_take]; omega
  go_enter Try.func5, Try.ntmps5
  go_wp2_with fail
  refine (l03awake_any _).mono ?_
  rintro e w1 ⟨rfl, K1⟩
  go_wp2_with fail
  refine (l03short_any l0 120 _ rfl _).mono ?_
  rintro e w1' ⟨rfl, rfl⟩
  generalize l0.take 120 = l at *
  go_wp2_with fail
  refine (oRead_any _ _).mono ?_
  rintro e w2 ⟨rfl, r2, k2⟩
  have K2 := K1.trans k2
  have hrb : w.heap.size ≤ w1.heap.size := K1.size
  have s2 := r2.lt
  replace r2 : RdAt w1.heap.size (some l) w2 := r2
  clear k2 K1
  generalize w1.heap.size = rb at *
  have R := r2.keeps ((Keeps.refl (fun _ => False) w2).alloc (.cells #[.string ⟨l.toArray⟩, .bool false] 54)) id
  have Q : QrAt w2.heap.size (some l) (w2.alloc (.cells #[.string ⟨l.toArray⟩, .bool false] 54)) := heap_alloc_new' w2 _
  have hA : Adds w (w2.alloc (.cells #[.string ⟨l.toArray⟩, .bool false] 54)) := K2.alloc _
  have hxb : w.heap.size ≤ w2.heap.size := K2.size
  have hsx : w2.heap.size < (w2.alloc (.cells #[.string ⟨l.toArray⟩, .bool false] 54)).heap.size := by simp
  clear K2 r2
  go_wp2_with fail
  go_loopw [8] (fun iv wr => ∃ (i : Nat) (st : Option (List UInt8)), i ≤ sl1 ∧ i ≤ 20 ∧ iv = .int .i64 i ∧ RdAt rb st wr ∧ QrAt w2.heap.size st wr ∧ stLen st ≤ 120 ∧ Adds w wr ∧ w2.heap.size < wr.heap.size) (fun iv _ => 20 - (intOf iv).toNat)
  case atStart => exact ⟨0, some l, by omega, by omega, rfl, R, Q, hl0, hA, hsx⟩
  case round =>
    clear R Q hA hsx
    obtain ⟨i, st, hi1, hi2, rfl, R, Q, hst, hA, hsx⟩ := hrel
    generalize w2.heap.size = xb at *
    by_cases hend : i < sl1 ∧ i < 20
    · obtain ⟨he1, he2⟩ := hend
      obtain ⟨rfl, k, n, s, m, ⟨b1, b2, b3, b4, b5⟩, q0, q1, q2, q3⟩ := HC.out i he1
      replace q0 := hA.cell q0 id
      replace q1 := hA.cell q1 id
      replace q2 := hA.cell q2 id
      replace q3 := hA.cell q3 id
      have d0 : (wr.alloc (.cells #[.int .i64 k, .int .u64 n, .string ⟨s.toArray⟩, .int .i64 m] 35)).heap[wr.heap.size]? = _ := heap_alloc_new' wr _
      have R2 := R.keeps ((Keeps.refl (fun _ => False) wr).alloc (.cells #[.int .i64 k, .int .u64 n, .string ⟨s.toArray⟩, .int .i64 m] 35)) id
      have Q2 := Q.keeps ((Keeps.refl (fun _ => False) wr).alloc (.cells #[.int .i64 k, .int .u64 n, .string ⟨s.toArray⟩, .int .i64 m] 35)) id
      have hA2 : Adds w (wr.alloc (.cells #[.int .i64 k, .int .u64 n, .string ⟨s.toArray⟩, .int .i64 m] 35)) := hA.alloc _
      have dd0 := Lib.hid d0
      clear d0
      go_wp2_with fail
      all_goals
        have d0 := dd0.out
        clear q0 q1 q2 q3 R Q hA dd0
        generalize hW : wr.alloc (.cells #[.int .i64 k, .int .u64 n, .string ⟨s.toArray⟩, .int .i64 m] 35) = w5 at *
        clear hW
        have hcb : xb < wr.heap.size := hsx
        have hcb2 : wr.heap.size < w5.heap.size := lt_of_heap d0
        clear hsx
        generalize wr.heap.size = cb at *
        have e0 : w5.cell? ⟨cb, 0, none⟩ = some (.int .i64 k) := cell_at d0 0 rfl
        have e1 : w5.cell? ⟨cb, 1, none⟩ = some (.int .u64 n) := cell_at d0 1 rfl
        have e2 : w5.cell? ⟨cb, 2, none⟩ = some (.string ⟨s.toArray⟩) := cell_at d0 2 rfl
        have e3 : w5.cell? ⟨cb, 3, none⟩ = some (.int .i64 m) := cell_at d0 3 rfl
        have hcr : ¬ cb = rb := by omega
        have hcx : ¬ cb = xb := by omega
        have hrx : ¬ rb = xb := by omega
        have hxr : ¬ xb = rb := by omega
        have hlen : stLen st ≤ 1000000000 := by omega
      · go_region_held3 (fun w' => w'.cell? ⟨cb, 1, none⟩ = some (.int .u64 n)) ((first | (go_keep; done) | exact Keeps.cell k3 (by assumption) hcr | exact Keeps.cell k4 (by assumption) hcx)) (first | (go_at_call 20; refine (rNum_any rb st hlen n _ rfl b3 _ R2.drew).mono ?_; rintro e w3 ⟨rfl, R3, k3⟩) | (go_at_call 23; refine (qNum_any xb st hlen n _ rfl b3 _ (Q2.drew.keeps k3 hxr)).mono ?_; rintro e w4 ⟨rfl, Q4, k4⟩))
        have hst1 := Nat.le_trans (rdNum_len n st) hst
        generalize hy : rdNum n st = y at *
        clear hy
        obtain ⟨yv, st'⟩ := y
        replace R3 : RdAt rb st' w3 := R3
        replace Q4 : QrAt xb st' w4 := Q4
        have R4 := R3.keeps k4 hrx
        have hA4 := (hA2.drew.trans' k3 (fun q hq h => by omega)).trans' k4 (fun q hq h => by omega)
        have hs3 := k3.size
        have hs34 := k4.size
        replace hs3 : w5.heap.size ≤ w3.heap.size := hs3
        have hst2 : stLen st' ≤ 120 := hst1
        replace hst1 : stLen st' ≤ 1000000000 := Nat.le_trans hst1 (by omega)
        clear R3 k3 k4
        have c1 := Q4.cell1
        have hs4 := hA4.size
        go_wp2_with fail
        cases st'
        case' none => skip
        case' some l' => skip
        all_goals
          go_quiet ((first | (go_at_call 21; exact rGood_q rb _ w4 _ _ rfl R4) | (go_at_call 30; exact rEnd_q rb _ w4 _ R4) | (go_at_call 22; exact rLeft_q rb _ hst1 w4 _ R4) | (go_at_call 31; exact qEnd_q xb _ w4 _ Q4) | (go_at_call 32; exact qLeft_q xb _ hst1 w4 _ Q4)))
          go_wp2
          go_roundw
          case rel => exact ⟨i + 1, _, by omega, by omega, by go_num, R4.drewN _, Q4.drewN _, hst2, hA4.drewN _, by show xb < w4.heap.size; omega⟩
          case measure => simp [intOf]; omega
      · go_region_held3 (fun w' => w'.cell? ⟨cb, 3, none⟩ = some (.int .i64 m)) ((first | (go_keep; done) | exact Keeps.cell k3 (by assumption) hcr | exact Keeps.cell k4 (by assumption) hcx)) (first | (go_at_call 24; refine (rInt_any rb st hlen m b5 _ R2.drew).mono ?_; rintro e w3 ⟨rfl, R3, k3⟩) | (go_at_call 25; refine (qInt_any xb st hlen m b5 _ (Q2.drew.keeps k3 hxr)).mono ?_; rintro e w4 ⟨rfl, Q4, k4⟩))
        have hst1 := Nat.le_trans (rdInt_len m st) hst
        generalize hy : rdInt m st = y at *
        clear hy
        obtain ⟨yv, st'⟩ := y
        replace R3 : RdAt rb st' w3 := R3
        replace Q4 : QrAt xb st' w4 := Q4
        have R4 := R3.keeps k4 hrx
        have hA4 := (hA2.drew.trans' k3 (fun q hq h => by omega)).trans' k4 (fun q hq h => by omega)
        have hs3 := k3.size
        have hs34 := k4.size
        replace hs3 : w5.heap.size ≤ w3.heap.size := hs3
        have hst2 : stLen st' ≤ 120 := hst1
        replace hst1 : stLen st' ≤ 1000000000 := Nat.le_trans hst1 (by omega)
        clear R3 k3 k4
        have c1 := Q4.cell1
        have hs4 := hA4.size
        go_wp2_with fail
        cases st'
        case' none => skip
        case' some l' => skip
        all_goals
          go_quiet ((first | (go_at_call 21; exact rGood_q rb _ w4 _ _ rfl R4) | (go_at_call 30; exact rEnd_q rb _ w4 _ R4) | (go_at_call 22; exact rLeft_q rb _ hst1 w4 _ R4) | (go_at_call 31; exact qEnd_q xb _ w4 _ Q4) | (go_at_call 32; exact qLeft_q xb _ hst1 w4 _ Q4)))
          go_wp2
          go_roundw
          case rel => exact ⟨i + 1, _, by omega, by omega, by go_num, R4.drewN _, Q4.drewN _, hst2, hA4.drewN _, by show xb < w4.heap.size; omega⟩
          case measure => simp [intOf]; omega
      · go_region_held3 (fun w' => w'.cell? ⟨cb, 3, none⟩ = some (.int .i64 m)) ((first | (go_keep; done) | exact Keeps.cell k3 (by assumption) hcr | exact Keeps.cell k4 (by assumption) hcx)) (first | (go_at_call 26; refine (rText_any rb st hlen m b5 _ R2.drew).mono ?_; rintro e w3 ⟨rfl, R3, k3⟩) | (go_at_call 27; refine (qText_any xb st hlen m b5 _ (Q2.drew.keeps k3 hxr)).mono ?_; rintro e w4 ⟨rfl, Q4, k4⟩))
        have hst1 := Nat.le_trans (rdText_len m st) hst
        generalize hy : rdText m st = y at *
        clear hy
        obtain ⟨yv, st'⟩ := y
        replace R3 : RdAt rb st' w3 := R3
        replace Q4 : QrAt xb st' w4 := Q4
        have R4 := R3.keeps k4 hrx
        have hA4 := (hA2.drew.trans' k3 (fun q hq h => by omega)).trans' k4 (fun q hq h => by omega)
        have hs3 := k3.size
        have hs34 := k4.size
        replace hs3 : w5.heap.size ≤ w3.heap.size := hs3
        have hst2 : stLen st' ≤ 120 := hst1
        replace hst1 : stLen st' ≤ 1000000000 := Nat.le_trans hst1 (by omega)
        clear R3 k3 k4
        have c1 := Q4.cell1
        have hs4 := hA4.size
        go_wp2_with fail
        cases st'
        case' none => skip
        case' some l' => skip
        all_goals
          go_quiet ((first | (go_at_call 21; exact rGood_q rb _ w4 _ _ rfl R4) | (go_at_call 30; exact rEnd_q rb _ w4 _ R4) | (go_at_call 22; exact rLeft_q rb _ hst1 w4 _ R4) | (go_at_call 31; exact qEnd_q xb _ w4 _ Q4) | (go_at_call 32; exact qLeft_q xb _ hst1 w4 _ Q4)))
          go_wp2
          go_roundw
          case rel => exact ⟨i + 1, _, by omega, by omega, by go_num, R4.drewN _, Q4.drewN _, hst2, hA4.drewN _, by show xb < w4.heap.size; omega⟩
          case measure => simp [intOf]; omega
      · refine (rFlag_any rb st hlen _ R2).mono ?_
        rintro e w3 ⟨rfl, R3, k3⟩
        have Q3 := Q2.keeps k3 hxr
        go_wp2_with fail
        refine (qFlag_any xb st hlen _ Q3).mono ?_
        rintro e w4 ⟨rfl, Q4, k4⟩
        have hst1 := Nat.le_trans (rdFlag_len st) hst
        generalize hy : rdFlag st = y at *
        clear hy
        obtain ⟨yv, st'⟩ := y
        replace R3 : RdAt rb st' w3 := R3
        replace Q4 : QrAt xb st' w4 := Q4
        have R4 := R3.keeps k4 hrx
        have hA4 := (hA2.trans' k3 (fun q hq h => by omega)).trans' k4 (fun q hq h => by omega)
        have hs3 := k3.size
        have hs34 := k4.size
        have hst2 : stLen st' ≤ 120 := hst1
        replace hst1 : stLen st' ≤ 1000000000 := Nat.le_trans hst1 (by omega)
        clear R3 k3 k4 Q3
        have c1 := Q4.cell1
        have hs4 := hA4.size
        go_wp2_with fail
        cases st'
        case' none => skip
        case' some l' => skip
        all_goals
          go_quiet ((first | (go_at_call 21; exact rGood_q rb _ w4 _ _ rfl R4) | (go_at_call 30; exact rEnd_q rb _ w4 _ R4) | (go_at_call 22; exact rLeft_q rb _ hst1 w4 _ R4) | (go_at_call 31; exact qEnd_q xb _ w4 _ Q4) | (go_at_call 32; exact qLeft_q xb _ hst1 w4 _ Q4)))
          go_wp2
          go_roundw
          case rel => exact ⟨i + 1, _, by omega, by omega, by go_num, R4.drewN _, Q4.drewN _, hst2, hA4.drewN _, by show xb < w4.heap.size; omega⟩
          case measure => simp [intOf]; omega
    · by_cases he1 : i < sl1
      · have he2 : ¬ i < 20 := fun h => hend ⟨he1, h⟩
        go_wp2_with fail
        go_ret
        exact ⟨rfl, Adds.below hA⟩
      · go_wp2_with fail
        go_ret
        exact ⟨rfl, Adds.below hA⟩

end Go.Proofs.Ytbfclkjbgicncaa
