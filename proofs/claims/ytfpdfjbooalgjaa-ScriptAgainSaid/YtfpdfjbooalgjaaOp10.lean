
/- The document's side of ops. -/
import Derived.Test.YtfpdfjbooalgjaaOp9
namespace Go.Proofs.Ytfpdfjbooalgjaa
open Go.RowKit
set_option linter.unusedVariables false
set_option linter.unusedSimpArgs false

set_option maxRecDepth 100000 in
theorem u13Bare_1 (a b c d e : Int) (sv : Bool) (i cc m : Int) (w : World) : Calls Try.prog 39 #[GOp.val ⟨1, ⟨a, b, c, d, e⟩, sv, i, cc, m⟩] w fun r w' => r = .returned (GOp.val ⟨1, ⟨a, b, c, d, e⟩, sv, 0, 0, 0⟩) ∧ Adds w w' := by
  have K := Keeps.refl (fun _ => False) w
  go_enter Try.func39, Try.ntmps39
  go_wp2
  go_returns
  exact ⟨rfl, by (repeat (first | assumption | exact Keeps.refl _ _ | exact Keeps.trans_alloc (by assumption) | (refine Keeps.alloc ?_ _) | (refine Keeps.drew ?_) | (refine Keeps.drewN ?_ _) | (refine Keeps.setCell ?_ _ _ (fun h => by simp at h; try omega)) | (refine Keeps.setCell ?_ _ _ (fun h => absurd h (by simp; try omega)))))⟩

set_option maxRecDepth 100000 in
theorem u13Bare_2 (a b c d e : Int) (sv : Bool) (i cc m : Int) (w : World) : Calls Try.prog 39 #[GOp.val ⟨2, ⟨a, b, c, d, e⟩, sv, i, cc, m⟩] w fun r w' => r = .returned (GOp.val ⟨2, ⟨0, 0, 0, 0, 0⟩, false, i, 0, 0⟩) ∧ Adds w w' := by
  have K := Keeps.refl (fun _ => False) w
  go_enter Try.func39, Try.ntmps39
  go_wp2
  go_returns
  exact ⟨rfl, by (repeat (first | assumption | exact Keeps.refl _ _ | exact Keeps.trans_alloc (by assumption) | (refine Keeps.alloc ?_ _) | (refine Keeps.drew ?_) | (refine Keeps.drewN ?_ _) | (refine Keeps.setCell ?_ _ _ (fun h => by simp at h; try omega)) | (refine Keeps.setCell ?_ _ _ (fun h => absurd h (by simp; try omega)))))⟩

set_option maxRecDepth 100000 in
theorem u13Bare_3 (a b c d e : Int) (sv : Bool) (i cc m : Int) (w : World) : Calls Try.prog 39 #[GOp.val ⟨3, ⟨a, b, c, d, e⟩, sv, i, cc, m⟩] w fun r w' => r = .returned (GOp.val ⟨3, ⟨0, 0, 0, 0, 0⟩, false, i, cc, 0⟩) ∧ Adds w w' := by
  have K := Keeps.refl (fun _ => False) w
  go_enter Try.func39, Try.ntmps39
  go_wp2
  go_returns
  exact ⟨rfl, by (repeat (first | assumption | exact Keeps.refl _ _ | exact Keeps.trans_alloc (by assumption) | (refine Keeps.alloc ?_ _) | (refine Keeps.drew ?_) | (refine Keeps.drewN ?_ _) | (refine Keeps.setCell ?_ _ _ (fun h => by simp at h; try omega)) | (refine Keeps.setCell ?_ _ _ (fun h => absurd h (by simp; try omega)))))⟩

set_option maxRecDepth 100000 in
theorem u13Bare_4 (a b c d e : Int) (sv : Bool) (i cc m : Int) (w : World) : Calls Try.prog 39 #[GOp.val ⟨4, ⟨a, b, c, d, e⟩, sv, i, cc, m⟩] w fun r w' => r = .returned (GOp.val ⟨4, ⟨0, 0, 0, 0, 0⟩, false, 0, 0, m⟩) ∧ Adds w w' := by
  have K := Keeps.refl (fun _ => False) w
  go_enter Try.func39, Try.ntmps39
  go_wp2
  go_returns
  exact ⟨rfl, by (repeat (first | assumption | exact Keeps.refl _ _ | exact Keeps.trans_alloc (by assumption) | (refine Keeps.alloc ?_ _) | (refine Keeps.drew ?_) | (refine Keeps.drewN ?_ _) | (refine Keeps.setCell ?_ _ _ (fun h => by simp at h; try omega)) | (refine Keeps.setCell ?_ _ _ (fun h => absurd h (by simp; try omega)))))⟩

set_option maxRecDepth 100000 in
theorem u13Bare_k (k : Int) (b1 : (k == 1) = false) (b2 : (k == 2) = false) (b3 : (k == 3) = false) (b4 : (k == 4) = false) (a b c d e : Int) (sv : Bool) (i cc m : Int) (w : World) : Calls Try.prog 39 #[GOp.val ⟨k, ⟨a, b, c, d, e⟩, sv, i, cc, m⟩] w fun r w' => r = .returned (GOp.val ⟨k, ⟨0, 0, 0, 0, 0⟩, false, 0, 0, 0⟩) ∧ Adds w w' := by
  have K := Keeps.refl (fun _ => False) w
  go_enter Try.func39, Try.ntmps39
  go_wp2
  go_returns
  exact ⟨rfl, by (repeat (first | assumption | exact Keeps.refl _ _ | exact Keeps.trans_alloc (by assumption) | (refine Keeps.alloc ?_ _) | (refine Keeps.drew ?_) | (refine Keeps.drewN ?_ _) | (refine Keeps.setCell ?_ _ _ (fun h => by simp at h; try omega)) | (refine Keeps.setCell ?_ _ _ (fun h => absurd h (by simp; try omega)))))⟩

theorem u13Bare_c (o : GOp) (w : World) : Calls Try.prog 39 #[o.val] w fun r w' => r = .returned o.bare.val ∧ Adds w w' := by
  obtain ⟨k, ⟨a, b, c, d, e⟩, sv, i, cc, m⟩ := o
  simp only [GOp.bare]
  by_cases h1 : k = 1
  · rw [if_pos h1]; subst h1; exact u13Bare_1 a b c d e sv i cc m w
  by_cases h2 : k = 2
  · rw [if_neg h1, if_pos h2]; subst h2; exact u13Bare_2 a b c d e sv i cc m w
  by_cases h3 : k = 3
  · rw [if_neg h1, if_neg h2, if_pos h3]; subst h3; exact u13Bare_3 a b c d e sv i cc m w
  by_cases h4 : k = 4
  · rw [if_neg h1, if_neg h2, if_neg h3, if_pos h4]; subst h4; exact u13Bare_4 a b c d e sv i cc m w
  rw [if_neg h1, if_neg h2, if_neg h3, if_neg h4]
  exact u13Bare_k k (by simpa using h1) (by simpa using h2) (by simpa using h3) (by simpa using h4) a b c d e sv i cc m w

end Go.Proofs.Ytfpdfjbooalgjaa
