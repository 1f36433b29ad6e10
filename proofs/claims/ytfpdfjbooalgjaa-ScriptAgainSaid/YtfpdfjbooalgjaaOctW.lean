
/- octet.Writer: what each of its methods puts. -/
import Derived.Test.YtfpdfjbooalgjaaBu
import Derived.Test.YtfpdfjbooalgjaaPure3
import Derived.Shelf.Strconv.Itoa0
import Derived.StillTailTactics
import Derived.BigQuiet
namespace Go.Proofs
open Go.Shelf
def Ytfpdfjbooalgjaa.lays129_ren : Go.Shelf.Ren := ⟨fun | 129 => 72 | n => n, fun | 53 => 88 | 3 => 3 | 4 => 4 | 46 => 117 | 5 => 5 | 9 => 9 | n => n, fun | n => n⟩
theorem Ytfpdfjbooalgjaa.lays129 : Go.Proofs.Lays.n129 Try.prog Ytfpdfjbooalgjaa.lays129_ren := {
  mixed := by kernel_rfl
  f129 := Try.func72.trans (congrArg some (by kernel_rfl))
  t3 := Try.underlying3
  a3 := Try.isAgg3
  z3 := Try.sizeOf3
  v3 := Try.zeroValue3
  t4 := Try.underlying4
  a4 := Try.isAgg4
  z4 := Try.sizeOf4
  v4 := Try.zeroValue4
  t5 := Try.underlying5
  a5 := Try.isAgg5
  z5 := Try.sizeOf5
  v5 := Try.zeroValue5
  t9 := Try.underlying9
  a9 := Try.isAgg9
  z9 := Try.sizeOf9
  v9 := Try.zeroValue9
  t46 := Try.underlying117
  a46 := Try.isAgg117
  z46 := Try.sizeOf117
  v46 := Try.zeroValue117
  t53 := Try.underlying88
  a53 := Try.isAgg88
  z53 := Try.sizeOf88
  v53 := Try.zeroValue88 }
namespace Ytfpdfjbooalgjaa
open Go.RowKit
set_option linter.unusedVariables false

theorem len64_any (x : Int) (w : World) (h0 : 0 ≤ x) (h1 : x ≤ 18446744073709551615) :
    Calls Try.prog 72 #[.int .u64 x] w fun e w' => e = .returned (.int .i64 (Lib.bitLen x.toNat)) ∧ w = w' := (Any.bits_Len64 lays129 x w h0 h1).mono fun _ _ ⟨a, b⟩ => ⟨a, b.symm⟩

theorem buT_Writer : BuT 64 := ⟨by kernel_rfl, by decide⟩

theorem oSize_any (n : Nat) (x : Int) (hx : x = n) (w : World) (h : n < 18446744073709551616) :
    Calls Try.prog 61 #[.int .u64 x] w fun e w' => e = .returned (.int .i64 (beb n).length) ∧ w = w' := by
  have hl := beb_len n h
  have hl8 := beb_len8 n h
  have hb : Lib.bitLen n ≤ 64 := by omega
  have H : Hid ((beb n).length = (Lib.bitLen n + 7) / 8) := hl
  clear hl
  subst hx
  go_enter Try.func61, Try.ntmps61
  go_wp2_with (go_at_call 72; refine (len64_any _ _ (by omega) (by omega)).mono ?_; rintro e w' ⟨rfl, rfl⟩)
  go_ret
  exact ⟨ret_int (by rw [H.out]; omega), rfl⟩

theorem oPut_any (B b : Nat) (bs : List UInt8) (c : UInt8) (x : Int) (hx : x = c.toNat) (w : World) (h : BuAt 64 B b bs w) (hlen : bs.length ≤ 1000000000) (hBw : B ≤ w.heap.size) :
    Calls Try.prog 62 #[.pointer (some ⟨b, 0, none⟩), .int .u8 x] w fun e w' => e = .returned (.tuple #[]) ∧ BuAt 64 B b (bs ++ [c]) w' ∧ Keeps (Bu B b) w w' := by
  subst hx
  go_enter Try.func62, Try.ntmps62
  go_wp2_with (go_at_call 73; refine (sbWriteByte_any _ B b buT_Writer bs c _ rfl _ h hlen hBw).mono ?_)
  rintro e w' ⟨rfl, h1, h2⟩
  go_wp2
  go_end0
  exact ⟨rfl, h1, h2⟩

theorem oPuts_any (B b : Nat) (bs : List UInt8) (s : ByteArray) (w : World) (h : BuAt 64 B b bs w) (hlen : bs.length ≤ 1000000000) (hs : s.size ≤ 1000000000) (hBw : B ≤ w.heap.size) :
    Calls Try.prog 60 #[.pointer (some ⟨b, 0, none⟩), .string s] w fun e w' => e = .returned (.tuple #[]) ∧ BuAt 64 B b (bs ++ s.data.toList) w' ∧ Keeps (Bu B b) w w' := by
  go_enter Try.func60, Try.ntmps60
  go_wp2_with (go_at_call 71; refine (sbWriteString_any _ B b buT_Writer bs s _ h hlen hs hBw).mono ?_)
  rintro e w' ⟨rfl, h1, h2⟩
  go_wp2
  go_end0
  exact ⟨rfl, h1, h2⟩

set_option maxRecDepth 100000 in
set_option maxHeartbeats 1000000 in
theorem wNum_any (B b : Nat) (bs : List UInt8) (n : Nat) (x : Int) (hx : x = n) (hn : n < 18446744073709551616) (w : World) (h : BuAt 64 B b bs w) (hlen : bs.length ≤ 900000000) (hBw : B ≤ w.heap.size) :
    Calls Try.prog 44 #[.pointer (some ⟨b, 0, none⟩), .int .u64 x] w fun e w' => e = .returned (.pointer (some ⟨b, 0, none⟩)) ∧ BuAt 64 B b (bs ++ encNum n) w' ∧ Keeps (Bu B b) w w' := by
  subst hx
  have hl8 := beb_len8 n hn
  go_enter Try.func44, Try.ntmps44
  go_wp2_with (go_at_call 61; refine (oSize_any n _ rfl _ hn).mono ?_; rintro e w' ⟨rfl, rfl⟩)
  go_wp2_with (go_at_call 62; refine (oPut_any B b bs (UInt8.ofNat (beb n).length) _ (by simp; omega) _ h (by omega) hBw).mono ?_)
  rintro e w1 ⟨rfl, h1, k1⟩
  have hsz := k1.size
  go_wp2_with fail
  go_loopw [6, 18] (fun _ iv wr => ∃ i : Nat, i ≤ (beb n).length ∧ iv = .int .i64 i ∧ BuAt 64 B b (bs ++ [UInt8.ofNat (beb n).length] ++ (beb n).take i) wr ∧ Keeps (Bu B b) w wr) (fun _ iv _ => (beb n).length - (intOf iv).toNat)
  case atStart => exact ⟨0, by omega, rfl, by simpa using h1, k1⟩
  case round =>
    obtain ⟨i, hi, rfl, h2, k2⟩ := hrel
    have hsz2 := k2.size
    by_cases hlt : i < (beb n).length
    · go_wp2_with fail
      have p1 : (0 : Int) ≤ 8 * (↑(beb n).length - 1 - ↑i) := by omega
      have p2 : 8 * ((↑(beb n).length : Int) - 1 - ↑i) ≤ 64 := by omega
      have hd : BuAt 64 B b (bs ++ [UInt8.ofNat (beb n).length] ++ (beb n).take i) wr.drew := h2
      have hsd : B ≤ wr.drew.heap.size := by show B ≤ wr.heap.size; omega
      have e1 : IntKind.i64.wrap ((↑(beb n).length : Int) - 1) = ↑(beb n).length - 1 := IntWalk.i64_in _ (by omega)
      have e2 : IntKind.i64.wrap ((↑(beb n).length : Int) - 1 - ↑i) = ↑(beb n).length - 1 - ↑i := IntWalk.i64_in _ (by omega)
      have e3 : IntKind.i64.wrap (8 * ((↑(beb n).length : Int) - 1 - ↑i)) = 8 * (↑(beb n).length - 1 - ↑i) := IntWalk.i64_in _ (by omega)
      go_still_tail 11, (by kernel_rfl)
      clear e1 e2 e3
      change wpList _ _ _ _ _ wr.drew
      go_wp2_with (go_at_call 62; refine (oPut_any B b _ (UInt8.ofNat (n / 256 ^ ((beb n).length - 1 - i) % 256)) _ (shr_byte n _) _ hd (by simp; omega) hsd).mono ?_)
      rintro e w2 ⟨rfl, h3, k3⟩
      go_wp2_with fail
      go_roundw
      case rel =>
        refine ⟨i + 1, by omega, by go_num, ?_, (k2.drew).trans' k3 (fun _ _ x => x)⟩
        rw [beb_take_succ n i hlt, ← List.append_assoc]; exact h3
      case measure => simp [intOf]; omega
    · go_wp2_with fail
      go_ret
      refine ⟨rfl, ?_, k2⟩
      rw [List.take_of_length_le (by omega)] at h2
      simpa [encNum] using h2

theorem wInt_any (B b : Nat) (bs : List UInt8) (x : Int) (hx : x ≤ 9223372036854775807) (w : World) (h : BuAt 64 B b bs w) (hlen : bs.length ≤ 900000000) (hBw : B ≤ w.heap.size) :
    Calls Try.prog 41 #[.pointer (some ⟨b, 0, none⟩), .int .i64 x] w fun e w' => e = .returned (.pointer (some ⟨b, 0, none⟩)) ∧ BuAt 64 B b (bs ++ encNum x.toNat) w' ∧ Keeps (Bu B b) w w' := by
  by_cases h0 : 0 ≤ x
  · obtain ⟨n, rfl⟩ := Int.eq_ofNat_of_zero_le h0
    rw [Int.toNat_natCast]
    have hm : max (n : Int) 0 = n := by omega
    go_enter Try.func41, Try.ntmps41
    go_wp2_with (go_at_call 44; refine (wNum_any B b bs n _ rfl (by omega) _ h hlen hBw).mono ?_; rintro e w' ⟨rfl, h1, h2⟩)
    go_ret
    exact ⟨rfl, h1, h2⟩
  · have e0 : x.toNat = 0 := by omega
    have hm : max x 0 = 0 := by omega
    rw [e0]
    clear e0
    go_enter Try.func41, Try.ntmps41
    go_wp2_with (go_at_call 44; refine (wNum_any B b bs 0 _ rfl (by omega) _ h hlen hBw).mono ?_; rintro e w' ⟨rfl, h1, h2⟩)
    go_ret
    exact ⟨rfl, h1, h2⟩

def encText (s : List UInt8) : List UInt8 := encNum s.length ++ s
def encFlag (f : Bool) : List UInt8 := encNum (if f then 1 else 0)

theorem encNum_len (n : Nat) (h : n < 18446744073709551616) : (encNum n).length ≤ 9 := by
  have := beb_len8 n h
  simp [encNum]; omega

theorem wText_any (B b : Nat) (bs : List UInt8) (s : ByteArray) (hs : s.size ≤ 100000000) (w : World) (h : BuAt 64 B b bs w) (hlen : bs.length ≤ 900000000) (hBw : B ≤ w.heap.size) :
    Calls Try.prog 43 #[.pointer (some ⟨b, 0, none⟩), .string s] w fun e w' => e = .returned (.pointer (some ⟨b, 0, none⟩)) ∧ BuAt 64 B b (bs ++ encText s.data.toList) w' ∧ Keeps (Bu B b) w w' := by
  have hl : (encNum s.size).length ≤ 9 := encNum_len _ (by omega)
  go_enter Try.func43, Try.ntmps43
  go_wp2_with (go_at_call 41; refine (wInt_any B b bs _ (by omega) _ h hlen hBw).mono ?_)
  rintro e w1 ⟨rfl, h1, k1⟩
  have hsz := k1.size
  rw [Int.toNat_natCast] at h1
  go_wp2_with (go_at_call 60; refine (oPuts_any B b _ s _ h1 (by simp; omega) (by omega) (by omega)).mono ?_)
  rintro e w2 ⟨rfl, h2, k2⟩
  go_wp2
  go_ret
  exact ⟨rfl, by rw [encText, ← List.append_assoc]; exact h2, k1.trans k2⟩

theorem wFlag_any (B b : Nat) (bs : List UInt8) (f : Bool) (w : World) (h : BuAt 64 B b bs w) (hlen : bs.length ≤ 900000000) (hBw : B ≤ w.heap.size) :
    Calls Try.prog 96 #[.pointer (some ⟨b, 0, none⟩), .bool f] w fun e w' => e = .returned (.pointer (some ⟨b, 0, none⟩)) ∧ BuAt 64 B b (bs ++ encFlag f) w' ∧ Keeps (Bu B b) w w' := by
  cases f
  · go_enter Try.func96, Try.ntmps96
    go_wp2_with (go_at_call 44; refine (wNum_any B b bs 0 _ rfl (by omega) _ h hlen hBw).mono ?_; rintro e w' ⟨rfl, h1, h2⟩)
    go_ret
    exact ⟨rfl, h1, h2⟩
  · go_enter Try.func96, Try.ntmps96
    go_wp2_with (go_at_call 44; refine (wNum_any B b bs 1 _ rfl (by omega) _ h hlen hBw).mono ?_; rintro e w' ⟨rfl, h1, h2⟩)
    go_ret
    exact ⟨rfl, h1, h2⟩

theorem wString_any (B b : Nat) (bs : List UInt8) (w : World) (h : BuAt 64 B b bs w) (hlen : bs.length ≤ 900000000) :
    Calls Try.prog 29 #[.pointer (some ⟨b, 0, none⟩)] w fun e w' => e = .returned (.string ⟨bs.toArray⟩) ∧ BuAt 64 B b bs w' ∧ Keeps (Bu B b) w w' := by
  go_enter Try.func29, Try.ntmps29
  go_wp2_with (go_at_call 46; refine (sbString_any _ B b bs _ h (by omega)).mono ?_; rintro e w' ⟨rfl, h1, h2⟩)
  go_ret
  exact ⟨rfl, h1, h2⟩

/- Of no writer. -/
theorem wNum_nil (x : Int) (w : World) : Calls Try.prog 44 #[.pointer none, .int .u64 x] w fun e w' => e = .returned (.pointer none) ∧ w = w' := by
  go_enter Try.func44, Try.ntmps44
  go_wp2
  go_ret
  exact ⟨rfl, rfl⟩
theorem wInt_nil (x : Int) (w : World) : Calls Try.prog 41 #[.pointer none, .int .i64 x] w fun e w' => e = .returned (.pointer none) ∧ w = w' := by
  go_enter Try.func41, Try.ntmps41
  go_wp2_with (go_at_call 44; refine (wNum_nil _ _).mono ?_; rintro e w' ⟨rfl, rfl⟩)
  go_ret
  exact ⟨rfl, rfl⟩
theorem wText_nil (s : ByteArray) (w : World) : Calls Try.prog 43 #[.pointer none, .string s] w fun e w' => e = .returned (.pointer none) ∧ w = w' := by
  go_enter Try.func43, Try.ntmps43
  go_wp2_with (go_at_call 41; refine (wInt_nil _ _).mono ?_; rintro e w' ⟨rfl, rfl⟩)
  go_ret
  exact ⟨rfl, rfl⟩
theorem wFlag_nil (f : Bool) (w : World) : Calls Try.prog 96 #[.pointer none, .bool f] w fun e w' => e = .returned (.pointer none) ∧ w = w' := by
  cases f
  all_goals
    go_enter Try.func96, Try.ntmps96
    go_wp2_with (go_at_call 44; refine (wNum_nil _ _).mono ?_; rintro e w' ⟨rfl, rfl⟩)
    go_ret
    exact ⟨rfl, rfl⟩
theorem wString_nil (w : World) : Calls Try.prog 29 #[.pointer none] w fun e w' => e = .returned (.string ⟨#[]⟩) ∧ w = w' := by
  go_enter Try.func29, Try.ntmps29
  go_wp2
  go_ret
  exact ⟨rfl, rfl⟩

end Ytfpdfjbooalgjaa
end Go.Proofs
