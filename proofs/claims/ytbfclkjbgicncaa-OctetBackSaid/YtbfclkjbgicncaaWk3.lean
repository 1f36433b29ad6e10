/- The laws of chapter 3, walked. -/
import Derived.Test.YtbfclkjbgicncaaLaw3
import Derived.Test.YtbfclkjbgicncaaArgs
namespace Go.Proofs.Ytbfclkjbgicncaa
open Go.RowKit
set_option linter.unusedVariables false
attribute [local go_sem] str_get str_cut run_str1 str_app str_app1 str_app0

theorem wf_u64 {x : Int} (h : IsInt .u64 [.int .u64 x]) : 0 ≤ x ∧ x ≤ 18446744073709551615 := by
  obtain ⟨n, h1, h2⟩ := h
  simp only [List.cons.injEq, Value.int.injEq, true_and, and_true] at h1
  subst h1
  simp [Lit.wf, IntKind.min, IntKind.max, IntKind.signed, IntKind.bits] at h2
  omega
theorem wf_i64 {x : Int} (h : IsInt .i64 [.int .i64 x]) : -9223372036854775808 ≤ x ∧ x ≤ 9223372036854775807 := by
  obtain ⟨n, h1, h2⟩ := h
  simp only [List.cons.injEq, Value.int.injEq, true_and, and_true] at h1
  subst h1
  simp [Lit.wf, IntKind.min, IntKind.max, IntKind.signed, IntKind.bits] at h2
  omega
theorem nat_u64 {x : Int} (h : IsInt .u64 [.int .u64 x]) : ∃ n : Nat, x = n ∧ n < 18446744073709551616 := by
  have := wf_u64 h
  exact ⟨x.toNat, by omega, by omega⟩

set_option maxHeartbeats 1000000 in
theorem OctetNil_walk (x0 : Int) (x1 : Int) (w : World) (h0 : IsInt .u64 [.int .u64 x0]) (h1 : IsInt .i64 [.int .i64 x1]) :
    Calls Try.prog 7 #[.int .u64 x0, .int .i64 x1] w fun e w' => e = .returned (.bool true) ∧ Below w.heap.size w w' := by
  clear h0 h1
  go_enter Try.func7, Try.ntmps7
  go_wp2_with (first | (go_at_call 8; refine (l03awake_any _).mono ?_; rintro e w1 ⟨rfl, k1⟩) | (go_at_call 10; refine (wNum_nil _ _).mono ?_; rintro e w2 ⟨rfl, rfl⟩) | (go_at_call 12; refine (wInt_nil _ _).mono ?_; rintro e w2 ⟨rfl, rfl⟩) | (go_at_call 14; refine (wText_nil _ _).mono ?_; rintro e w2 ⟨rfl, rfl⟩) | (go_at_call 16; refine (wFlag_nil _ _).mono ?_; rintro e w2 ⟨rfl, rfl⟩) | (go_at_call 18; refine (wString_nil _).mono ?_; rintro e w2 ⟨rfl, rfl⟩) | (go_at_call 20; refine (rNum_nil _ _).mono ?_; rintro e w2 ⟨rfl, n2, rfl⟩) | (go_at_call 24; refine (rInt_nil _ _).mono ?_; rintro e w3 ⟨rfl, n3, rfl⟩) | (go_at_call 26; refine (rText_nil _ _).mono ?_; rintro e w4 ⟨rfl, n4, rfl⟩) | (go_at_call 28; refine (rFlag_nil _).mono ?_; rintro e w5 ⟨rfl, n5, rfl⟩) | (go_at_call 21; refine (rGood_nil _).mono ?_; rintro e w2 ⟨rfl, rfl⟩) | (go_at_call 30; refine (rEnd_nil _).mono ?_; rintro e w2 ⟨rfl, rfl⟩) | (go_at_call 22; refine (rLeft_nil _).mono ?_; rintro e w2 ⟨rfl, rfl⟩))
  go_ret
  exact ⟨rfl, Adds.below (k1.drewN _)⟩

end Go.Proofs.Ytbfclkjbgicncaa
