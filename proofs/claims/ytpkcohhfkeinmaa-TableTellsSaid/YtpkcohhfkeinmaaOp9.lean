
/- The document's side of ops. -/
import Derived.Test.YtpkcohhfkeinmaaOp8
namespace Go.Proofs.Ytpkcohhfkeinmaa
open Go.RowKit
set_option linter.unusedVariables false
set_option linter.unusedSimpArgs false

theorem u13Name_1 (w : World) : Calls Try.prog 41 #[.int .i64 1] w fun x w' => x = .returned (.string ⟨#[97, 100, 109, 105, 116]⟩) ∧ w = w' := by
  go_enter Try.func41, Try.ntmps41
  go_wp2
  go_ret
  exact ⟨rfl, rfl⟩

theorem u13Name_2 (w : World) : Calls Try.prog 41 #[.int .i64 2] w fun x w' => x = .returned (.string ⟨#[114, 101, 109, 111, 118, 101]⟩) ∧ w = w' := by
  go_enter Try.func41, Try.ntmps41
  go_wp2
  go_ret
  exact ⟨rfl, rfl⟩

theorem u13Name_3 (w : World) : Calls Try.prog 41 #[.int .i64 3] w fun x w' => x = .returned (.string ⟨#[114, 101, 115, 105, 122, 101]⟩) ∧ w = w' := by
  go_enter Try.func41, Try.ntmps41
  go_wp2
  go_ret
  exact ⟨rfl, rfl⟩

theorem u13Name_4 (w : World) : Calls Try.prog 41 #[.int .i64 4] w fun x w' => x = .returned (.string ⟨#[109, 111, 100, 101]⟩) ∧ w = w' := by
  go_enter Try.func41, Try.ntmps41
  go_wp2
  go_ret
  exact ⟨rfl, rfl⟩

theorem u13Name_k (k : Int) (b1 : (k == 1) = false) (b2 : (k == 2) = false) (b3 : (k == 3) = false) (b4 : (k == 4) = false) (w : World) : Calls Try.prog 41 #[.int .i64 k] w fun x w' => x = .returned (.string ⟨#[110, 111, 110, 101]⟩) ∧ w = w' := by
  go_enter Try.func41, Try.ntmps41
  go_wp2
  go_ret
  exact ⟨rfl, rfl⟩

theorem u13Name_c (k : Int) (w : World) : Calls Try.prog 41 #[.int .i64 k] w fun x w' => x = .returned (.string ⟨(kindName k).toArray⟩) ∧ w = w' := by
  simp only [kindName]
  by_cases h1 : k = 1
  · subst h1; exact u13Name_1 w
  by_cases h2 : k = 2
  · subst h2; exact u13Name_2 w
  by_cases h3 : k = 3
  · subst h3; exact u13Name_3 w
  by_cases h4 : k = 4
  · subst h4; exact u13Name_4 w
  rw [if_neg h1, if_neg h2, if_neg h3, if_neg h4]
  exact u13Name_k k (by simpa using h1) (by simpa using h2) (by simpa using h3) (by simpa using h4) w

end Go.Proofs.Ytpkcohhfkeinmaa
