
/- OpsNames, walked. -/
import Derived.Test.YtpkcohhfkeinmaaOp8
import Derived.Test.YtpkcohhfkeinmaaArgs
namespace Go.Proofs.Ytpkcohhfkeinmaa
open Go.RowKit
set_option linter.unusedVariables false
set_option linter.unusedSimpArgs false

theorem kindName_none (a : Int) : @BEq.beq (List UInt8) List.instBEq (kindName a) [110, 111, 110, 101] = !(decide (1 ≤ a) && decide (a ≤ 4)) := by
  simp only [kindName]
  split
  · subst a; rfl
  split
  · subst a; rfl
  split
  · subst a; rfl
  split
  · subst a; rfl
  · rename_i h1 h2 h3 h4
    have : ¬ (1 ≤ a ∧ a ≤ 4) := by omega
    rw [← Bool.decide_and, decide_eq_false this]
    rfl

theorem kindName_same (a b : Int) : @BEq.beq (List UInt8) List.instBEq (kindName a) (kindName b) = ((a == b) || ((!decide (1 ≤ a) || !decide (a ≤ 4)) && (!decide (1 ≤ b) || !decide (b ≤ 4)))) := by
  by_cases ha : 1 ≤ a ∧ a ≤ 4
  · by_cases hb : 1 ≤ b ∧ b ≤ 4
    · have h1 : a = 1 ∨ a = 2 ∨ a = 3 ∨ a = 4 := by omega
      have h2 : b = 1 ∨ b = 2 ∨ b = 3 ∨ b = 4 := by omega
      rcases h1 with rfl | rfl | rfl | rfl <;> rcases h2 with rfl | rfl | rfl | rfl <;> decide
    · have hb' : kindName b = [110, 111, 110, 101] := by
        have := kindName_none b
        rw [← Bool.decide_and, decide_eq_false hb] at this
        exact beq_iff_eq.1 this
      rw [hb', kindName_none]
      have hab : (a == b) = false := by simp; omega
      rw [hab]
      simp only [Bool.false_or, Bool.not_and]
      have : (!decide (1 ≤ b) || !decide (b ≤ 4)) = true := by rw [← Bool.not_and, ← Bool.decide_and, decide_eq_false hb]; rfl
      rw [this, Bool.and_true]
  · have ha' : kindName a = [110, 111, 110, 101] := by
      have := kindName_none a
      rw [← Bool.decide_and, decide_eq_false ha] at this
      exact beq_iff_eq.1 this
    have hA : (!decide (1 ≤ a) || !decide (a ≤ 4)) = true := by rw [← Bool.not_and, ← Bool.decide_and, decide_eq_false ha]; rfl
    rw [hA, Bool.true_and, ha', show @BEq.beq (List UInt8) List.instBEq [110, 111, 110, 101] (kindName b) = @BEq.beq (List UInt8) List.instBEq (kindName b) [110, 111, 110, 101] from BEq.comm, kindName_none]
    by_cases hab : a = b
    · subst hab
      rw [← Bool.not_and, ← Bool.decide_and, decide_eq_false ha]
      simp
    · have : (a == b) = false := by simpa using hab
      rw [this, Bool.false_or, Bool.not_and]

set_option maxRecDepth 100000 in
set_option maxHeartbeats 4000000 in
theorem names_go (a b : Int) (A1 A2 B1 B2 E : Bool) (hA1 : decide (1 ≤ a) = A1) (hA2 : decide (a ≤ 4) = A2) (hB1 : decide (1 ≤ b) = B1) (hB2 : decide (b ≤ 4) = B2) (hE : (a == b) = E)
    (hA3 : decide (a < 1) = !A1) (hA4 : decide (4 < a) = !A2) (hB3 : decide (b < 1) = !B1) (hB4 : decide (4 < b) = !B2)
    (hN : @BEq.beq (List UInt8) List.instBEq (kindName a) [110, 111, 110, 101] = !(A1 && A2)) (hX : @BEq.beq (List UInt8) List.instBEq (kindName a) (kindName b) = (E || ((!A1 || !A2) && (!B1 || !B2)))) (w : World) :
    Calls Try.prog 13 #[.int .i64 a, .int .i64 b] w fun e w' => e = .returned (.bool true) ∧ Adds w w' := by
  have C1 := Lib.hid (fun w => pName_c a w)
  have C2 := Lib.hid (fun w => pName_c b w)
  have K := Keeps.refl (fun _ => False) w
  cases A1 <;> cases A2 <;> cases B1 <;> cases B2 <;> cases E <;> simp only [Bool.not_true, Bool.not_false, Bool.and_true, Bool.true_and, Bool.and_false, Bool.false_and, Bool.or_true, Bool.true_or, Bool.or_false, Bool.false_or] at hN hX hA3 hA4 hB3 hB4
  all_goals go_enter Try.func13, Try.ntmps13
  all_goals go_wp2_with (first | (go_at_call 37; refine (l13awake_c _).mono ?_; rintro e w1 ⟨rfl, k1⟩; have K := K.trans k1) | (go_at_call 40; (first | (with_reducible refine (C1.out _).mono ?_) | (with_reducible refine (C2.out _).mono ?_) | (with_reducible refine (pName_1 _).mono ?_) | (with_reducible refine (pName_2 _).mono ?_) | (with_reducible refine (pName_3 _).mono ?_) | (with_reducible refine (pName_4 _).mono ?_)); rintro e w2 ⟨rfl, k2⟩; have K := K.trans k2))
  all_goals (go_ret; exact ⟨rfl, by assumption⟩)

theorem OpsNames_walk (x0 : Int) (x1 : Int) (w : World) (h0 : IsInt .i64 [.int .i64 x0]) (h1 : IsInt .i64 [.int .i64 x1]) :
    Calls Try.prog 13 #[.int .i64 x0, .int .i64 x1] w fun e w' => e = .returned (.bool true) ∧ Below w.heap.size w w' :=
  (names_go x0 x1 _ _ _ _ _ rfl rfl rfl rfl rfl (by rw [Bool.eq_iff_iff]; simp) (by rw [Bool.eq_iff_iff]; simp) (by rw [Bool.eq_iff_iff]; simp) (by rw [Bool.eq_iff_iff]; simp) (kindName_none x0) (kindName_same x0 x1) w).mono fun _ _ h => ⟨h.1, h.2.below⟩

end Go.Proofs.Ytpkcohhfkeinmaa
