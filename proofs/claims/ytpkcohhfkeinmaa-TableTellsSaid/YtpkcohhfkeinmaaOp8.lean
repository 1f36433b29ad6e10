
/- The chapter's example. -/
import Derived.Test.YtpkcohhfkeinmaaOp7
namespace Go.Proofs.Ytpkcohhfkeinmaa
open Go.RowKit
set_option linter.unusedVariables false
set_option linter.unusedSimpArgs false

theorem l13awake_c (w : World) : Calls Try.prog 37 #[] w fun e w' => e = .returned (.bool true) ∧ Adds w w' := by
  have hE : encNum 2 ++ encNum (Int.toNat 7) = [1, 2, 1, 7] := by
    have h1 : Int.toNat 7 = 7 := rfl
    rw [h1]
    have e2 : encNum 2 = [1, 2] := by
      simp only [encNum]
      rw [beb_pos (by decide), show 2 / 256 = 0 from rfl, beb_zero]
      decide
    have e7 : encNum 7 = [1, 7] := by
      simp only [encNum]
      rw [beb_pos (by decide), show 7 / 256 = 0 from rfl, beb_zero]
      decide
    rw [e2, e7]
    rfl
  have hok : GOp.ok ⟨2, ⟨0, 0, 0, 0, 0⟩, false, 7, 0, 0⟩ := by decide
  have hby := Lib.hid (fun w => pBytes_2 7 (by omega) hok w)
  clear hok
  go_enter Try.func37, Try.ntmps37
  go_wp2_with (first | (go_at_call 43; (refine (hby.out _).mono ?_); rw [hE]; rintro r w1 ⟨rfl, k1⟩) | (go_at_call 40; (refine (pName_4 _).mono ?_); rintro r w2 ⟨rfl, k2⟩))
  go_ret
  exact ⟨rfl, k1.trans k2⟩

end Go.Proofs.Ytpkcohhfkeinmaa
