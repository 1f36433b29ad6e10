/- The chapter's examples, and short. -/
import Derived.Test.YtbfclkjbgicncaaRef3d
import Derived.Test.YtbfclkjbgicncaaBu2
namespace Go.Proofs.Ytbfclkjbgicncaa
open Go.RowKit
set_option linter.unusedVariables false
attribute [local go_sem] str_get str_cut run_str1 str_app str_app1 str_app0

theorem rNum_nil (x : Int) (w : World) : Calls Try.prog 20 #[.pointer none, .int .u64 x] w fun e w' => e = .returned (.int .u64 0) ∧ ∃ n, w' = w.drewN n := by
  have hq : ∀ n, Calls Try.prog 21 #[.pointer none] (w.drewN n) fun e w' => e = .returned (.bool false) ∧ ∃ m, w' = w.drewN m := fun n => (rGood_nil _).mono fun _ _ ⟨a, b⟩ => ⟨a, n, b.symm⟩
  go_enter Try.func20, Try.ntmps20
  set_option maxRecDepth 100000 in go_wp2_with fail
  go_step3
  set_option maxRecDepth 100000 in go_wp2_with fail
  set_option maxRecDepth 100000 in go_quiet ((go_at_call 21; exact hq _))
  clear hq
  set_option maxRecDepth 100000 in go_wp2_with (go_at_call 37; refine (rFails_nil _).mono ?_; rintro e w1 ⟨rfl, rfl⟩)
  rw [Exit.noGoto_ret]
  go_ret
  exact ⟨rfl, _, rfl⟩

theorem rInt_nil (x : Int) (w : World) : Calls Try.prog 24 #[.pointer none, .int .i64 x] w fun e w' => e = .returned (.int .i64 0) ∧ ∃ n, w' = w.drewN n := by
  by_cases h0 : x < 0
  · go_enter Try.func24, Try.ntmps24
    go_wp2_with (first | (go_at_call 37; refine (rFails_nil _).mono ?_; rintro e w1 ⟨rfl, rfl⟩) | (go_at_call 20; refine (rNum_nil _ _).mono ?_; rintro e w1 ⟨rfl, n, rfl⟩))
    go_ret
    exact ⟨rfl, _, rfl⟩
  · go_enter Try.func24, Try.ntmps24
    go_wp2_with (first | (go_at_call 37; refine (rFails_nil _).mono ?_; rintro e w1 ⟨rfl, rfl⟩) | (go_at_call 20; refine (rNum_nil _ _).mono ?_; rintro e w1 ⟨rfl, n, rfl⟩))
    go_ret
    exact ⟨rfl, _, rfl⟩

theorem rText_nil (x : Int) (w : World) : Calls Try.prog 26 #[.pointer none, .int .i64 x] w fun e w' => e = .returned (.string ⟨#[]⟩) ∧ ∃ n, w' = w.drewN n := by
  go_enter Try.func26, Try.ntmps26
  go_wp2_with (first | (go_at_call 24; refine (rInt_nil _ _).mono ?_; rintro e w1 ⟨rfl, n, rfl⟩) | (go_at_call 37; refine (rFails_nil _).mono ?_; rintro e w1 ⟨rfl, rfl⟩) | (go_at_call 21; refine (rGood_nil _).mono ?_; rintro e w1 ⟨rfl, rfl⟩))
  go_ret
  exact ⟨rfl, _, rfl⟩

theorem rFlag_nil (w : World) : Calls Try.prog 28 #[.pointer none] w fun e w' => e = .returned (.bool false) ∧ ∃ n, w' = w.drewN n := by
  go_enter Try.func28, Try.ntmps28
  go_wp2_with (go_at_call 20; refine (rNum_nil _ _).mono ?_; rintro e w1 ⟨rfl, n, rfl⟩)
  go_ret
  exact ⟨rfl, _, rfl⟩

theorem rEnd_nil (w : World) : Calls Try.prog 30 #[.pointer none] w fun e w' => e = .returned (.bool false) ∧ w = w' := by
  go_enter Try.func30, Try.ntmps30
  go_wp2_with (go_at_call 21; refine (rGood_nil _).mono ?_; rintro e w1 ⟨rfl, rfl⟩)
  go_ret
  exact ⟨rfl, rfl⟩

theorem rLeft_nil (w : World) : Calls Try.prog 22 #[.pointer none] w fun e w' => e = .returned (.int .i64 0) ∧ w = w' := by
  go_enter Try.func22, Try.ntmps22
  go_wp2_with (go_at_call 21; refine (rGood_nil _).mono ?_; rintro e w1 ⟨rfl, rfl⟩)
  go_ret
  exact ⟨rfl, rfl⟩

theorem l03short_any (l : List UInt8) (n : Nat) (x : Int) (hx : x = n) (w : World) : Calls Try.prog 9 #[.string ⟨l.toArray⟩, .int .i64 x] w fun e w' => e = .returned (.string ⟨(l.take n).toArray⟩) ∧ w = w' := by
  subst hx
  by_cases h : l.length ≤ n
  · rw [List.take_of_length_le h]
    go_enter Try.func9, Try.ntmps9
    go_wp2
    go_ret
    exact ⟨rfl, rfl⟩
  · go_enter Try.func9, Try.ntmps9
    go_wp2
    go_ret
    exact ⟨rfl, rfl⟩

theorem enc300 : encNum 300 = [2, 1, 44] := by
  simp only [encNum]
  rw [beb_pos (by decide), beb_pos (by decide)]
  have : 300 / 256 / 256 = 0 := by decide
  rw [this, beb_zero]
  decide
theorem encTextab : encText [97, 98] = [1, 2, 97, 98] := by
  simp only [encText, encNum, List.length_cons, List.length_nil]
  rw [beb_pos (by decide)]
  have : (0 + 1 + 1) / 256 = 0 := by decide
  rw [this, beb_zero]
  decide

theorem dec300 : rdNum 1000 (some [2, 1, 44, 1, 2, 97, 98]) = (300, some [1, 2, 97, 98]) := by
  have h := decNum_enc (most := 1000) (n := 300) [1, 2, 97, 98] (by omega) (by omega)
  rw [enc300] at h
  simp only [rdNum, show ([2, 1, 44, 1, 2, 97, 98] : List UInt8) = [2, 1, 44] ++ [1, 2, 97, 98] from rfl, h]
theorem decTextab : rdText 9 (some [1, 2, 97, 98]) = ([97, 98], some []) := by
  have h := decNum_enc (most := 9) (n := 2) [97, 98] (by omega) (by omega)
  have e : encNum 2 = [1, 2] := by
    have := encTextab
    simp only [encText, List.length_cons, List.length_nil] at this
    exact List.append_inj_left' this rfl
  rw [e] at h
  have h2 : rdInt 9 (some [1, 2, 97, 98]) = (2, some [97, 98]) := by
    simp only [rdInt, if_neg (by decide : ¬ (9 : Int) < 0), rdNum, show (9 : Int).toNat = 9 from rfl, show ([1, 2, 97, 98] : List UInt8) = [1, 2] ++ [97, 98] from rfl, h]
  simp [rdText, h2]

set_option maxHeartbeats 1000000 in
theorem l03awake_any (w : World) : Calls Try.prog 8 #[] w fun e w' => e = .returned (.bool true) ∧ Adds w w' := by
  have h0 := BuAt.new 32 (w.heap.size + 1) w
  have hs0 : w.heap.size + 1 ≤ (w.alloc (.cells #[.pointer none, .slice none 0 0] 32)).heap.size := by simp
  have k0 : Adds w (w.alloc (.cells #[.pointer none, .slice none 0 0] 32)) := (Keeps.refl _ w).alloc _
  go_enter Try.func8, Try.ntmps8
  go_wp2_with fail
  refine (wNum_any (w.heap.size + 1) w.heap.size [] 300 _ rfl (by omega) _ h0 (by simp) hs0).mono ?_
  rintro e w1 ⟨rfl, h1, k1⟩
  have s1 := k1.size
  rw [enc300, List.nil_append] at h1
  have K1 : Adds w w1 := k0.trans' k1 (fun i hi h => by rcases h with h | h <;> omega)
  clear k1 k0 h0
  go_wp2_with fail
  refine (wText_any (w.heap.size + 1) w.heap.size _ ⟨#[97, 98]⟩ (by decide) _ h1 (by simp) (by omega)).mono ?_
  rintro e w2 ⟨rfl, h2, k2⟩
  have s2 := k2.size
  have K2 : Adds w w2 := K1.trans' k2 (fun i hi h => by rcases h with h | h <;> omega)
  replace h2 : BuAt 32 (w.heap.size + 1) w.heap.size [2, 1, 44, 1, 2, 97, 98] w2 := by
    have := h2
    rw [show (⟨#[97, 98]⟩ : ByteArray).data.toList = [97, 98] from rfl, encTextab] at this
    exact this
  clear k2 K1 h1
  obtain ⟨r, h2⟩ := h2.r
  go_wp2_with fail
  refine (wString_r (w.heap.size + 1) w.heap.size r _ _ h2 (by simp)).mono ?_
  rintro e w3 ⟨rfl, h3, k3⟩
  have s3 := k3.size
  have hr := h2.lt
  have K3 : Adds w w3 := K2.trans' k3 (fun i hi h => by have := hr i h; omega)
  clear k3 K2
  go_wp2_with fail
  refine (oRead_any _ _).mono ?_
  rintro e w4 ⟨rfl, r4, k4⟩
  have h4 := h3.keeps k4 id (fun _ _ x => x)
  have s4 := k4.size
  have K4 : Adds w w4 := K3.trans k4
  have hne : r ≠ some w3.heap.size := fun h => by have := hr _ h; omega
  have hB : w.heap.size ≤ w3.heap.size := by omega
  clear k4 K3 h3 h2
  generalize w3.heap.size = rb at *
  go_wp2_with fail
  refine (wString_r (w.heap.size + 1) w.heap.size r _ _ h4 (by simp)).mono ?_
  rintro e w5 ⟨rfl, h5, k5⟩
  have r5 := r4.keeps k5 hne
  have K5 : Adds w w5 := K4.trans' k5 (fun i hi h => by have := hr i h; omega)
  clear k5 K4 h4 r4 h5 hr
  replace r5 : RdAt rb (some [2, 1, 44, 1, 2, 97, 98]) w5 := r5
  go_wp2_with fail
  refine (rNum_any rb _ (by decide) 1000 _ rfl (by omega) _ r5).mono ?_
  rw [dec300]
  rintro e w6 ⟨rfl, r6, k6⟩
  have K6 : Adds w w6 := K5.trans' k6 (fun i hi h => by omega)
  clear k6 K5 r5
  replace r6 : RdAt rb (some [1, 2, 97, 98]) w6 := r6
  go_wp2_with fail
  refine (rText_any rb _ (by decide) _ (by omega) _ r6).mono ?_
  rw [decTextab]
  rintro e w7 ⟨rfl, r7, k7⟩
  have K7 : Adds w w7 := K6.trans' k7 (fun i hi h => by omega)
  clear k7 K6 r6
  replace r7 : RdAt rb (some []) w7 := r7
  go_wp2_with (go_at_call 30; refine (rEnd_any rb _ _ r7).mono ?_; rintro e w8 ⟨rfl, rfl⟩)
  go_ret
  exact ⟨rfl, K7⟩

end Go.Proofs.Ytbfclkjbgicncaa
