/- OctetWrites, walked. -/
import Derived.Test.YtbfclkjbgicncaaWk3b
import Derived.Test.YtbfclkjbgicncaaWr2
namespace Go.Proofs.Ytbfclkjbgicncaa
open Go.RowKit
set_option linter.unusedVariables false
attribute [local go_sem] str_get str_cut run_str1 str_app str_app1 str_app0

theorem encText_len (l : List UInt8) (h : l.length ≤ 60) : (encText l).length ≤ 80 := by
  have := encNum_len l.length (by omega)
  rw [encText, List.length_append]; omega
theorem encFlag_len (f : Bool) : (encFlag f).length ≤ 80 := by
  have := encNum_len (if f then 1 else 0) (by split <;> omega)
  rw [encFlag]; omega

/-- A call's cells. -/
theorem isCall {w : World} {es : List Value} (h : IsCall w es) : ∃ (k : Int) (n : Nat) (s : List UInt8) (m : Int), es = [.int .i64 k, .int .u64 n, .string ⟨s.toArray⟩, .int .i64 m] ∧ -9223372036854775808 ≤ k ∧ k ≤ 9223372036854775807 ∧ n < 18446744073709551616 ∧ -9223372036854775808 ≤ m ∧ m ≤ 9223372036854775807 := by
  obtain ⟨c0, c1, c2, c3, rfl, ⟨k, rfl, hk⟩, ⟨n, rfl, hn⟩, ⟨s, rfl, _⟩, ⟨m, rfl, hm⟩⟩ := h
  obtain ⟨l, rfl⟩ := str_of s
  obtain ⟨n', rfl, hn'⟩ := nat_u64 ⟨n, rfl, hn⟩
  have := wf_i64 ⟨k, rfl, hk⟩
  have := wf_i64 ⟨m, rfl, hm⟩
  exact ⟨k, n', l, m, rfl, by omega, by omega, hn', by omega, by omega⟩

set_option maxRecDepth 100000 in
set_option maxHeartbeats 2000000 in
theorem OctetWrites_walk (sa0 : Option Addr) (sl0 sc0 : Nat) (w : World) (h0 : IsSl 4 (fun w c => IsCall w c) w [.slice sa0 sl0 sc0]) :
    Calls Try.prog 3 #[.slice sa0 sl0 sc0] w fun e w' => e = .returned (.bool true) ∧ Below w.heap.size w w' := by
  have hcells : ∃ a : Addr, ∀ i, i < sl0 → sa0 = some a ∧ ∃ (k : Int) (n : Nat) (s : List UInt8) (m : Int), (-9223372036854775808 ≤ k ∧ k ≤ 9223372036854775807 ∧ n < 18446744073709551616 ∧ -9223372036854775808 ≤ m ∧ m ≤ 9223372036854775807) ∧
      w.cell? (a.add (i * 4)) = some (.int .i64 k) ∧ w.cell? ⟨(a.add (i * 4)).block, (a.add (i * 4)).off + 1, none⟩ = some (.int .u64 n) ∧ w.cell? ⟨(a.add (i * 4)).block, (a.add (i * 4)).off + 2, none⟩ = some (.string ⟨s.toArray⟩) ∧ w.cell? ⟨(a.add (i * 4)).block, (a.add (i * 4)).off + 3, none⟩ = some (.int .i64 m) := by
    rcases h0 with h0 | ⟨a, len, cap, h0, _, _, hi⟩
    · simp only [List.cons.injEq, Value.slice.injEq, and_true] at h0
      exact ⟨⟨0, 0, none⟩, fun i hi => by omega⟩
    · simp only [List.cons.injEq, Value.slice.injEq, and_true] at h0
      obtain ⟨rfl, rfl, rfl⟩ := h0
      refine ⟨a, fun i him => ⟨rfl, ?_⟩⟩
      obtain ⟨es, _, hes, hc⟩ := hi i him
      obtain ⟨k, n, s, m, rfl, hb⟩ := isCall hc
      exact ⟨k, n, s, m, hb, hes 0 (by omega), hes 1 (by omega), hes 2 (by omega), hes 3 (by omega)⟩
  have hcap : sl0 ≤ 9223372036854775807 := by
    rcases h0 with h0 | ⟨a, len, cap, h0, h1, h2, hi⟩
    · simp only [List.cons.injEq, Value.slice.injEq, and_true] at h0
      omega
    · simp only [List.cons.injEq, Value.slice.injEq, and_true] at h0
      unfold maxLen at h2
      omega
  clear h0
  obtain ⟨hj, hinfo, _⟩ := Option.map_eq_some_iff.1 (show (Try.prog.info? 32).map (·.size) = some 2 from by kernel_rfl)
  obtain ⟨a, hcells⟩ := hcells
  have HC := Lib.hid hcells
  clear hcells
  go_enter Try.func3, Try.ntmps3
  go_wp2_with fail
  refine (l03awake_any _).mono ?_
  rintro e w1 ⟨rfl, K1⟩
  have hs1 := K1.size
  go_wp2_with fail
  go_loopw [5, 6] (fun sv iv wr => ∃ (i : Nat) (bs : List UInt8) (r : Option Nat), i ≤ sl0 ∧ i ≤ 20 ∧ iv = .int .i64 i ∧ sv = .string ⟨bs.toArray⟩ ∧ bs.length ≤ 100 * i ∧ BuR 32 0 w1.heap.size r bs wr ∧ (∀ j, r = some j → w.heap.size ≤ j) ∧ Adds w wr ∧ w1.heap.size < wr.heap.size) (fun _ iv _ => 20 - (intOf iv).toNat)
  case atStart => exact ⟨0, [], none, by omega, by omega, rfl, rfl, by simp, BuR.new0 _ _, (fun _ h => by cases h), K1.alloc _, by simp⟩
  case round =>
    obtain ⟨i, bs, r, hi1, hi2, rfl, rfl, hbs, hB, hr, hA, hlt⟩ := hrel
    have HR := Lib.hid hr
    clear hr
    by_cases hend : i < sl0 ∧ i < 20
    · obtain ⟨he1, he2⟩ := hend
      obtain ⟨rfl, k, n, s, m, ⟨b1, b2, b3, b4, b5⟩, q0, q1, q2, q3⟩ := HC.out i he1
      replace q0 := hA.cell q0 id
      replace q1 := hA.cell q1 id
      replace q2 := hA.cell q2 id
      replace q3 := hA.cell q3 id
      have d0 : (wr.alloc (.cells #[.int .i64 k, .int .u64 n, .string ⟨s.toArray⟩, .int .i64 m] 35)).heap[wr.heap.size]? = _ := heap_alloc_new' wr _
      have hB2 := hB.keeps ((Keeps.refl (fun _ => False) wr).alloc (.cells #[.int .i64 k, .int .u64 n, .string ⟨s.toArray⟩, .int .i64 m] 35)) id (fun _ _ x => x)
      have hA2 : Adds w (wr.alloc (.cells #[.int .i64 k, .int .u64 n, .string ⟨s.toArray⟩, .int .i64 m] 35)) := hA.alloc _
      have hrc0 : ∀ j, r = some j → j < wr.heap.size := fun j hj => (hB.lt j hj).2.1
      have HRC0 := Lib.hid hrc0
      clear hrc0
      go_wp2_with fail
      have hrc0 := HRC0.out
      clear q0 q1 q2 q3 hB hA HRC0
      generalize hW : wr.alloc (.cells #[.int .i64 k, .int .u64 n, .string ⟨s.toArray⟩, .int .i64 m] 35) = w2 at *
      clear hW
      generalize wr.heap.size = cb at *
      have hcb : cb < w2.heap.size := lt_of_heap d0
      have hsA := hA2.size
      have e0 : w2.cell? ⟨cb, 0, none⟩ = some (.int .i64 k) := cell_at d0 0 rfl
      have e1 : w2.cell? ⟨cb, 1, none⟩ = some (.int .u64 n) := cell_at d0 1 rfl
      have e2 : w2.cell? ⟨cb, 2, none⟩ = some (.string ⟨s.toArray⟩) := cell_at d0 2 rfl
      have e3 : w2.cell? ⟨cb, 3, none⟩ = some (.int .i64 m) := cell_at d0 3 rfl
      refine (l03short_any s 60 _ rfl _).mono ?_
      rintro e w2' ⟨rfl, rfl⟩
      have hrc : ∀ j, r = some j → j < cb := hrc0
      have hnc : ¬ (cb = w1.heap.size ∨ r = some cb) := by
        rintro (h | h)
        · omega
        · have := hrc cb h; omega
      have hpn := fun W => Lib.run_neq_ptr_same (P := Try.prog) W ⟨w1.heap.size, 0, none⟩ Try.underlying24 hinfo
      clear hrc0 hrc
      go_wp2_with fail
      · refine (wNum_r w1.heap.size r bs n _ rfl b3 _ hB2 (by omega)).mono ?_
        rintro e w3 ⟨rfl, P3⟩
        have kk := P3.keeps
        replace e1 := kk.cell e1 hnc
        replace e2 := kk.cell e2 hnc
        replace e3 := kk.cell e3 hnc
        clear kk
        have HP := Lib.hid P3
        clear P3
        go_wp2_with fail
        refine (qNumS_any n _ rfl b3 _).mono ?_
        rintro e w4 ⟨rfl, k4⟩
        have hx : (encNum n).length ≤ 80 := by have := encNum_len n b3; omega
        obtain ⟨r4, B4, N4, K4⟩ := HP.out.then k4
        have HN := Lib.hid N4
        clear N4 k4 HP
        go_wp2_with fail
        refine (wString_s w1.heap.size r4 _ _ B4 (by simp; omega)).mono ?_
        rintro e w5 ⟨rfl, r5, B5, N5, K5⟩
        have HN5 := Lib.hid N5
        clear N5
        have hs4 := K4.size
        have hs5 := K5.size
        go_wp2
        go_roundw
        case rel =>
          refine ⟨i + 1, bs ++ encNum n, r5, by omega, by omega, by go_num, rfl, by simp; omega, B5, ?_, ?_, by omega⟩
          · intro j hj
            rcases HN5.out with rfl | ⟨q, rfl, hq⟩
            · rcases HN.out with rfl | ⟨q, rfl, hq⟩
              · exact HR.out j hj
              · cases hj; omega
            · cases hj; omega
          · refine (hA2.trans' K4 (fun q hq hh => ?_)).trans' K5 (fun q hq hh => ?_)
            · rcases hh with hh | hh
              · omega
              · have := HR.out q hh; omega
            · rcases hh with hh | hh
              · omega
              · rcases HN.out with rfl | ⟨q', rfl, hq'⟩
                · have := HR.out q hh; omega
                · cases hh; omega
        case measure => simp [intOf]; omega
      · refine (wInt_r w1.heap.size r bs m b5 _ hB2 (by omega)).mono ?_
        rintro e w3 ⟨rfl, P3⟩
        have kk := P3.keeps
        replace e1 := kk.cell e1 hnc
        replace e2 := kk.cell e2 hnc
        replace e3 := kk.cell e3 hnc
        clear kk
        have HP := Lib.hid P3
        clear P3
        go_wp2_with fail
        refine (qIntS_any m b5 _).mono ?_
        rintro e w4 ⟨rfl, k4⟩
        have hx : (encNum m.toNat).length ≤ 80 := by have := encNum_len m.toNat (by omega); omega
        obtain ⟨r4, B4, N4, K4⟩ := HP.out.then k4
        have HN := Lib.hid N4
        clear N4 k4 HP
        go_wp2_with fail
        refine (wString_s w1.heap.size r4 _ _ B4 (by simp; omega)).mono ?_
        rintro e w5 ⟨rfl, r5, B5, N5, K5⟩
        have HN5 := Lib.hid N5
        clear N5
        have hs4 := K4.size
        have hs5 := K5.size
        go_wp2
        go_roundw
        case rel =>
          refine ⟨i + 1, bs ++ encNum m.toNat, r5, by omega, by omega, by go_num, rfl, by simp; omega, B5, ?_, ?_, by omega⟩
          · intro j hj
            rcases HN5.out with rfl | ⟨q, rfl, hq⟩
            · rcases HN.out with rfl | ⟨q, rfl, hq⟩
              · exact HR.out j hj
              · cases hj; omega
            · cases hj; omega
          · refine (hA2.trans' K4 (fun q hq hh => ?_)).trans' K5 (fun q hq hh => ?_)
            · rcases hh with hh | hh
              · omega
              · have := HR.out q hh; omega
            · rcases hh with hh | hh
              · omega
              · rcases HN.out with rfl | ⟨q', rfl, hq'⟩
                · have := HR.out q hh; omega
                · cases hh; omega
        case measure => simp [intOf]; omega
      · refine (wText_r w1.heap.size r bs (s.take 60) (by rw [List.length_take]; omega) _ hB2 (by omega)).mono ?_
        rintro e w3 ⟨rfl, P3⟩
        have kk := P3.keeps
        replace e1 := kk.cell e1 hnc
        replace e2 := kk.cell e2 hnc
        replace e3 := kk.cell e3 hnc
        clear kk
        have HP := Lib.hid P3
        clear P3
        go_wp2_with fail
        refine (qTextS_any (s.take 60) (by rw [List.length_take]; omega) _).mono ?_
        rintro e w4 ⟨rfl, k4⟩
        have hx : (encText (s.take 60)).length ≤ 80 := encText_len _ (by rw [List.length_take]; omega)
        obtain ⟨r4, B4, N4, K4⟩ := HP.out.then k4
        have HN := Lib.hid N4
        clear N4 k4 HP
        go_wp2_with fail
        refine (wString_s w1.heap.size r4 _ _ B4 (by simp; omega)).mono ?_
        rintro e w5 ⟨rfl, r5, B5, N5, K5⟩
        have HN5 := Lib.hid N5
        clear N5
        have hs4 := K4.size
        have hs5 := K5.size
        go_wp2
        go_roundw
        case rel =>
          refine ⟨i + 1, bs ++ encText (s.take 60), r5, by omega, by omega, by go_num, rfl, by simp; omega, B5, ?_, ?_, by omega⟩
          · intro j hj
            rcases HN5.out with rfl | ⟨q, rfl, hq⟩
            · rcases HN.out with rfl | ⟨q, rfl, hq⟩
              · exact HR.out j hj
              · cases hj; omega
            · cases hj; omega
          · refine (hA2.trans' K4 (fun q hq hh => ?_)).trans' K5 (fun q hq hh => ?_)
            · rcases hh with hh | hh
              · omega
              · have := HR.out q hh; omega
            · rcases hh with hh | hh
              · omega
              · rcases HN.out with rfl | ⟨q', rfl, hq'⟩
                · have := HR.out q hh; omega
                · cases hh; omega
        case measure => simp [intOf]; omega
      · refine (wFlag_r w1.heap.size r bs (bits BinOp.and IntKind.u64 n 1 == 1) _ hB2 (by omega)).mono ?_
        rintro e w3 ⟨rfl, P3⟩
        have kk := P3.keeps
        replace e1 := kk.cell e1 hnc
        replace e2 := kk.cell e2 hnc
        replace e3 := kk.cell e3 hnc
        clear kk
        have HP := Lib.hid P3
        clear P3
        go_wp2_with fail
        refine (qFlagS_any (bits BinOp.and IntKind.u64 n 1 == 1) _).mono ?_
        rintro e w4 ⟨rfl, k4⟩
        have hx : (encFlag (bits BinOp.and IntKind.u64 n 1 == 1)).length ≤ 80 := encFlag_len _
        obtain ⟨r4, B4, N4, K4⟩ := HP.out.then k4
        have HN := Lib.hid N4
        clear N4 k4 HP
        go_wp2_with fail
        refine (wString_s w1.heap.size r4 _ _ B4 (by simp; omega)).mono ?_
        rintro e w5 ⟨rfl, r5, B5, N5, K5⟩
        have HN5 := Lib.hid N5
        clear N5
        have hs4 := K4.size
        have hs5 := K5.size
        go_wp2
        go_roundw
        case rel =>
          refine ⟨i + 1, bs ++ encFlag (bits BinOp.and IntKind.u64 n 1 == 1), r5, by omega, by omega, by go_num, rfl, by simp; omega, B5, ?_, ?_, by omega⟩
          · intro j hj
            rcases HN5.out with rfl | ⟨q, rfl, hq⟩
            · rcases HN.out with rfl | ⟨q, rfl, hq⟩
              · exact HR.out j hj
              · cases hj; omega
            · cases hj; omega
          · refine (hA2.trans' K4 (fun q hq hh => ?_)).trans' K5 (fun q hq hh => ?_)
            · rcases hh with hh | hh
              · omega
              · have := HR.out q hh; omega
            · rcases hh with hh | hh
              · omega
              · rcases HN.out with rfl | ⟨q', rfl, hq'⟩
                · have := HR.out q hh; omega
                · cases hh; omega
        case measure => simp [intOf]; omega
    · by_cases he1 : i < sl0
      · have he2 : ¬ i < 20 := fun h => hend ⟨he1, h⟩
        go_wp2_with fail
        go_ret
        exact ⟨rfl, Adds.below hA⟩
      · go_wp2_with fail
        go_ret
        exact ⟨rfl, Adds.below hA⟩

end Go.Proofs.Ytbfclkjbgicncaa
