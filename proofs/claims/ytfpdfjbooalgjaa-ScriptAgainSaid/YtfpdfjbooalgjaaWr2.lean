
/- octet.Writer's other methods, block by block. -/
import Derived.Test.YtfpdfjbooalgjaaWr
namespace Go.Proofs.Ytfpdfjbooalgjaa
open Go.RowKit
set_option linter.unusedVariables false

theorem wInt_r (b : Nat) (r : Option Nat) (bs : List UInt8) (x : Int) (hx : x ≤ 9223372036854775807) (w : World) (h : BuR 64 0 b r bs w) (hlen : bs.length ≤ 900000000) :
    Calls Try.prog 41 #[.pointer (some ⟨b, 0, none⟩), .int .i64 x] w fun e w' => e = .returned (.pointer (some ⟨b, 0, none⟩)) ∧ WrPost 64 b r (bs ++ encNum x.toNat) w w' := by
  by_cases h0 : 0 ≤ x
  · obtain ⟨n, rfl⟩ := Int.eq_ofNat_of_zero_le h0
    rw [Int.toNat_natCast]
    have hm : max (n : Int) 0 = n := by omega
    go_enter Try.func41, Try.ntmps41
    go_wp2_with (go_at_call 44; refine (wNum_r b r bs n _ rfl (by omega) _ h hlen).mono ?_; rintro e w' ⟨rfl, h1⟩)
    go_ret
    exact ⟨rfl, h1⟩
  · have e0 : x.toNat = 0 := by omega
    have hm : max x 0 = 0 := by omega
    rw [e0]
    clear e0
    go_enter Try.func41, Try.ntmps41
    go_wp2_with (go_at_call 44; refine (wNum_r b r bs 0 _ rfl (by omega) _ h hlen).mono ?_; rintro e w' ⟨rfl, h1⟩)
    go_ret
    exact ⟨rfl, h1⟩

theorem wText_r (b : Nat) (r : Option Nat) (bs l : List UInt8) (hs : l.length ≤ 100000000) (w : World) (h : BuR 64 0 b r bs w) (hlen : bs.length ≤ 900000000) :
    Calls Try.prog 43 #[.pointer (some ⟨b, 0, none⟩), .string ⟨l.toArray⟩] w fun e w' => e = .returned (.pointer (some ⟨b, 0, none⟩)) ∧ WrPost 64 b r (bs ++ encText l) w w' := by
  have hl : (encNum l.length).length ≤ 9 := encNum_len _ (by omega)
  go_enter Try.func43, Try.ntmps43
  go_wp2_with fail
  refine (wInt_r b r bs _ (by omega) _ h hlen).mono ?_
  rw [Int.toNat_natCast]
  rintro e w1 ⟨rfl, r1, h1, n1, k1⟩
  have P1 : Hid (WrPost 64 b r (bs ++ encNum l.length) w w1) := ⟨r1, h1, n1, k1⟩
  clear n1 k1
  go_wp2_with fail
  refine (oPuts_r b r1 _ l _ h1 (by simp; omega) (by omega)).mono ?_
  rintro e w2 ⟨rfl, P2⟩
  go_wp2
  go_ret
  refine ⟨rfl, ?_⟩
  rw [encText, ← List.append_assoc]
  refine P1.out.step (fun r2 hr2 => ?_)
  have e : r2 = r1 := by
    obtain ⟨p, v, _, hb, _, _, q⟩ := hr2
    obtain ⟨p', v', _, hb', _, _, q'⟩ := h1
    rw [hb] at hb'
    simp only [Option.some.injEq, Obj.cells.injEq, Array.mk.injEq, List.cons.injEq] at hb'
    rw [← q, ← q', hb'.1.2.1]
  rw [e]; exact P2

theorem wFlag_r (b : Nat) (r : Option Nat) (bs : List UInt8) (f : Bool) (w : World) (h : BuR 64 0 b r bs w) (hlen : bs.length ≤ 900000000) :
    Calls Try.prog 96 #[.pointer (some ⟨b, 0, none⟩), .bool f] w fun e w' => e = .returned (.pointer (some ⟨b, 0, none⟩)) ∧ WrPost 64 b r (bs ++ encFlag f) w w' := by
  cases f
  · go_enter Try.func96, Try.ntmps96
    go_wp2_with (go_at_call 44; refine (wNum_r b r bs 0 _ rfl (by omega) _ h hlen).mono ?_; rintro e w' ⟨rfl, h1⟩)
    go_ret
    exact ⟨rfl, h1⟩
  · go_enter Try.func96, Try.ntmps96
    go_wp2_with (go_at_call 44; refine (wNum_r b r bs 1 _ rfl (by omega) _ h hlen).mono ?_; rintro e w' ⟨rfl, h1⟩)
    go_ret
    exact ⟨rfl, h1⟩

/-- String, of a builder whatever its base. -/
theorem wString_s (b : Nat) (r : Option Nat) (bs : List UInt8) (w : World) (h : BuR 64 0 b r bs w) (hlen : bs.length ≤ 900000000) :
    Calls Try.prog 29 #[.pointer (some ⟨b, 0, none⟩)] w fun e w' => e = .returned (.string ⟨bs.toArray⟩) ∧ WrPost 64 b r bs w w' :=
  (wString_r 0 b r bs w h hlen).mono fun _ _ ⟨e, h1, k1⟩ => ⟨e, r, h1, .inl rfl, k1.mono (fun _ _ x => Or.inr x)⟩

end Go.Proofs.Ytfpdfjbooalgjaa
