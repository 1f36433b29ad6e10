
/- Whether a task may be: param's and the document's. -/
import Derived.Test.YtfpdfjbooalgjaaOp1
namespace Go.Proofs.Ytfpdfjbooalgjaa
open Go.RowKit
set_option linter.unusedVariables false
set_option linter.unusedSimpArgs false

def GTask.ok (t : GTask) : Prop := 0 ≤ t.id ∧ t.id ≤ 1023 ∧ 0 < t.c ∧ t.c ≤ t.d ∧ t.d ≤ t.t ∧ t.t ≤ 2147483648 ∧ 0 < t.m ∧ t.m ≤ 15
instance (t : GTask) : Decidable t.ok := by unfold GTask.ok; infer_instance

theorem pCheck_c (t : GTask) (w : World) : Calls Try.prog 97 #[t.val] w fun e w' => e = .returned (.bool (decide (t.ok))) ∧ Adds w w' := by
  obtain ⟨a, b, c, d, e⟩ := t
  have K := Keeps.refl (fun _ => False) w
  go_enter Try.func97, Try.ntmps97
  go_wp2
  all_goals (go_ret; refine ⟨ret_bool ?_, by (repeat (first | assumption | exact Keeps.refl _ _ | exact Keeps.trans_alloc (by assumption) | (refine Keeps.alloc ?_ _) | (refine Keeps.drew ?_) | (refine Keeps.drewN ?_ _) | (refine Keeps.setCell ?_ _ _ (fun h => by simp at h; try omega)) | (refine Keeps.setCell ?_ _ _ (fun h => absurd h (by simp; try omega)))))⟩)
  all_goals (rw [Bool.eq_iff_iff]; simp only [Bool.and_eq_true, Bool.or_eq_true, decide_eq_true_eq, Bool.false_eq_true, false_iff, true_iff, iff_true, iff_false] at *; (try simp only [GTask.ok]); omega)

theorem u09Check_c (t : GTask) (w : World) : Calls Try.prog 40 #[t.val] w fun e w' => e = .returned (.bool (decide (t.ok))) ∧ Adds w w' := by
  obtain ⟨a, b, c, d, e⟩ := t
  have K := Keeps.refl (fun _ => False) w
  go_enter Try.func40, Try.ntmps40
  go_wp2
  all_goals (go_ret; refine ⟨ret_bool ?_, by (repeat (first | assumption | exact Keeps.refl _ _ | exact Keeps.trans_alloc (by assumption) | (refine Keeps.alloc ?_ _) | (refine Keeps.drew ?_) | (refine Keeps.drewN ?_ _) | (refine Keeps.setCell ?_ _ _ (fun h => by simp at h; try omega)) | (refine Keeps.setCell ?_ _ _ (fun h => absurd h (by simp; try omega)))))⟩)
  all_goals (rw [Bool.eq_iff_iff]; simp only [Bool.and_eq_true, Bool.or_eq_true, decide_eq_true_eq, Bool.false_eq_true, false_iff, true_iff, iff_true, iff_false] at *; (try simp only [GTask.ok]); omega)

theorem removeRight_c (id : Int) (w : World) : Calls Try.prog 100 #[.agg #[.int .i64 id]] w fun e w' => e = .returned (.bool (decide (0 ≤ id ∧ id ≤ 1023))) ∧ Adds w w' := by
  have K := Keeps.refl (fun _ => False) w
  go_enter Try.func100, Try.ntmps100
  go_wp2
  all_goals (go_ret; refine ⟨ret_bool ?_, by (repeat (first | assumption | exact Keeps.refl _ _ | exact Keeps.trans_alloc (by assumption) | (refine Keeps.alloc ?_ _) | (refine Keeps.drew ?_) | (refine Keeps.drewN ?_ _) | (refine Keeps.setCell ?_ _ _ (fun h => by simp at h; try omega)) | (refine Keeps.setCell ?_ _ _ (fun h => absurd h (by simp; try omega)))))⟩)
  all_goals (rw [Bool.eq_iff_iff]; simp only [Bool.and_eq_true, Bool.or_eq_true, decide_eq_true_eq, Bool.false_eq_true, false_iff, true_iff, iff_true, iff_false] at *; (try simp only [GTask.ok]); omega)

theorem resizeRight_c (id c : Int) (w : World) : Calls Try.prog 103 #[.agg #[.int .i64 id, .int .i64 c]] w fun e w' => e = .returned (.bool (decide (0 ≤ id ∧ id ≤ 1023 ∧ 1 ≤ c ∧ c ≤ 2147483648))) ∧ Adds w w' := by
  have K := Keeps.refl (fun _ => False) w
  go_enter Try.func103, Try.ntmps103
  go_wp2
  all_goals (go_ret; refine ⟨ret_bool ?_, by (repeat (first | assumption | exact Keeps.refl _ _ | exact Keeps.trans_alloc (by assumption) | (refine Keeps.alloc ?_ _) | (refine Keeps.drew ?_) | (refine Keeps.drewN ?_ _) | (refine Keeps.setCell ?_ _ _ (fun h => by simp at h; try omega)) | (refine Keeps.setCell ?_ _ _ (fun h => absurd h (by simp; try omega)))))⟩)
  all_goals (rw [Bool.eq_iff_iff]; simp only [Bool.and_eq_true, Bool.or_eq_true, decide_eq_true_eq, Bool.false_eq_true, false_iff, true_iff, iff_true, iff_false] at *; (try simp only [GTask.ok]); omega)

theorem modeRight_c (m : Int) (w : World) : Calls Try.prog 106 #[.agg #[.int .i64 m]] w fun e w' => e = .returned (.bool (decide (0 ≤ m ∧ m < 4))) ∧ Adds w w' := by
  have K := Keeps.refl (fun _ => False) w
  go_enter Try.func106, Try.ntmps106
  go_wp2
  all_goals (go_ret; refine ⟨ret_bool ?_, by (repeat (first | assumption | exact Keeps.refl _ _ | exact Keeps.trans_alloc (by assumption) | (refine Keeps.alloc ?_ _) | (refine Keeps.drew ?_) | (refine Keeps.drewN ?_ _) | (refine Keeps.setCell ?_ _ _ (fun h => by simp at h; try omega)) | (refine Keeps.setCell ?_ _ _ (fun h => absurd h (by simp; try omega)))))⟩)
  all_goals (rw [Bool.eq_iff_iff]; simp only [Bool.and_eq_true, Bool.or_eq_true, decide_eq_true_eq, Bool.false_eq_true, false_iff, true_iff, iff_true, iff_false] at *; (try simp only [GTask.ok]); omega)

theorem otherRight_c (k : Int) (w : World) : Calls Try.prog 109 #[.agg #[.int .i64 k]] w fun e w' => e = .returned (.bool false) ∧ Adds w w' := by
  have K := Keeps.refl (fun _ => False) w
  go_enter Try.func109, Try.ntmps109
  go_wp2
  go_ret
  exact ⟨rfl, by (repeat (first | assumption | exact Keeps.refl _ _ | exact Keeps.trans_alloc (by assumption) | (refine Keeps.alloc ?_ _) | (refine Keeps.drew ?_) | (refine Keeps.drewN ?_ _) | (refine Keeps.setCell ?_ _ _ (fun h => by simp at h; try omega)) | (refine Keeps.setCell ?_ _ _ (fun h => absurd h (by simp; try omega)))))⟩

theorem admitRight_c (a b c d e : Int) (sv : Bool) (w : World) : Calls Try.prog 95 #[.agg #[.int .i64 a, .int .i64 b, .int .i64 c, .int .i64 d, .int .i64 e, .bool sv]] w fun r w' => r = .returned (.bool (decide (GTask.ok ⟨a, b, c, d, e⟩ ∧ (sv = true → c = d)))) ∧ Adds w w' := by
  have K := Keeps.refl (fun _ => False) w
  by_cases hq : GTask.ok ⟨a, b, c, d, e⟩
  · have e1 : decide (GTask.ok ⟨a, b, c, d, e⟩) = true := decide_eq_true hq
    go_enter Try.func95, Try.ntmps95
    go_wp2_with (go_at_call 97; refine (pCheck_c ⟨a, b, c, d, e⟩ _).mono ?_; rw [e1]; rintro r w1 ⟨rfl, k1⟩; have c5 := k1.box (j := 5) rfl id; have c2 := k1.box (j := 2) rfl id; have c3 := k1.box (j := 3) rfl id)
    all_goals (go_ret; refine ⟨ret_bool ?_, by (repeat (first | assumption | exact Keeps.refl _ _ | exact Keeps.trans_alloc (by assumption) | (refine Keeps.alloc ?_ _) | (refine Keeps.drew ?_) | (refine Keeps.drewN ?_ _) | (refine Keeps.setCell ?_ _ _ (fun h => by simp at h; try omega)) | (refine Keeps.setCell ?_ _ _ (fun h => absurd h (by simp; try omega)))))⟩)
    all_goals (rw [Bool.eq_iff_iff]; simp [*])
  · have e1 : decide (GTask.ok ⟨a, b, c, d, e⟩) = false := decide_eq_false hq
    go_enter Try.func95, Try.ntmps95
    go_wp2_with (go_at_call 97; refine (pCheck_c ⟨a, b, c, d, e⟩ _).mono ?_; rw [e1]; rintro r w1 ⟨rfl, k1⟩)
    all_goals (go_ret; refine ⟨ret_bool ?_, by (repeat (first | assumption | exact Keeps.refl _ _ | exact Keeps.trans_alloc (by assumption) | (refine Keeps.alloc ?_ _) | (refine Keeps.drew ?_) | (refine Keeps.drewN ?_ _) | (refine Keeps.setCell ?_ _ _ (fun h => by simp at h; try omega)) | (refine Keeps.setCell ?_ _ _ (fun h => absurd h (by simp; try omega)))))⟩)
    all_goals (rw [Bool.eq_iff_iff]; simp [*])

end Go.Proofs.Ytfpdfjbooalgjaa
