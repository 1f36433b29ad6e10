
/- octet.Writer's other methods, block by block. -/
import Derived.Test.YtpkcohhfkeinmaaWr
namespace Go.Proofs.Ytpkcohhfkeinmaa
open Go.RowKit
set_option linter.unusedVariables false

theorem wInt_r (b : Nat) (r : Option Nat) (bs : List UInt8) (x : Int) (hx : x ≤ 9223372036854775807) (w : World) (h : BuR 102 0 b r bs w) (hlen : bs.length ≤ 900000000) :
    Calls Try.prog 75 #[.pointer (some ⟨b, 0, none⟩), .int .i64 x] w fun e w' => e = .returned (.pointer (some ⟨b, 0, none⟩)) ∧ WrPost 102 b r (bs ++ encNum x.toNat) w w' := by
  by_cases h0 : 0 ≤ x
  · obtain ⟨n, rfl⟩ := Int.eq_ofNat_of_zero_le h0
    rw [Int.toNat_natCast]
    have hm : max (n : Int) 0 = n := by omega
    go_enter Try.func75, Try.ntmps75
    go_wp2_with (go_at_call 76; refine (wNum_r b r bs n _ rfl (by omega) _ h hlen).mono ?_; rintro e w' ⟨rfl, h1⟩)
    go_ret
    exact ⟨rfl, h1⟩
  · have e0 : x.toNat = 0 := by omega
    have hm : max x 0 = 0 := by omega
    rw [e0]
    clear e0
    go_enter Try.func75, Try.ntmps75
    go_wp2_with (go_at_call 76; refine (wNum_r b r bs 0 _ rfl (by omega) _ h hlen).mono ?_; rintro e w' ⟨rfl, h1⟩)
    go_ret
    exact ⟨rfl, h1⟩

theorem wFlag_r (b : Nat) (r : Option Nat) (bs : List UInt8) (f : Bool) (w : World) (h : BuR 102 0 b r bs w) (hlen : bs.length ≤ 900000000) :
    Calls Try.prog 77 #[.pointer (some ⟨b, 0, none⟩), .bool f] w fun e w' => e = .returned (.pointer (some ⟨b, 0, none⟩)) ∧ WrPost 102 b r (bs ++ encFlag f) w w' := by
  cases f
  · go_enter Try.func77, Try.ntmps77
    go_wp2_with (go_at_call 76; refine (wNum_r b r bs 0 _ rfl (by omega) _ h hlen).mono ?_; rintro e w' ⟨rfl, h1⟩)
    go_ret
    exact ⟨rfl, h1⟩
  · go_enter Try.func77, Try.ntmps77
    go_wp2_with (go_at_call 76; refine (wNum_r b r bs 1 _ rfl (by omega) _ h hlen).mono ?_; rintro e w' ⟨rfl, h1⟩)
    go_ret
    exact ⟨rfl, h1⟩

/-- String, of a builder whatever its base. -/
theorem wString_s (b : Nat) (r : Option Nat) (bs : List UInt8) (w : World) (h : BuR 102 0 b r bs w) (hlen : bs.length ≤ 900000000) :
    Calls Try.prog 78 #[.pointer (some ⟨b, 0, none⟩)] w fun e w' => e = .returned (.string ⟨bs.toArray⟩) ∧ WrPost 102 b r bs w w' :=
  (wString_r 0 b r bs w h hlen).mono fun _ _ ⟨e, h1, k1⟩ => ⟨e, r, h1, .inl rfl, k1.mono (fun _ _ x => Or.inr x)⟩

end Go.Proofs.Ytpkcohhfkeinmaa
