/- Wl4, Wl5: one behind the other. -/
import Derived.Test.YtdoenmokahbeaaaGreatDoorWlA
import Derived.Test.YtdoenmokahbeaaaGreatDoorDkA

/- Logs on a disk without faults, plainly. -/
namespace Go.Proofs.YtdoenmokahbeaaaGreatDoor
open Go.RowKit
set_option linter.unusedVariables false
set_option linter.unusedSimpArgs false

/-- What a scan of a good disk tells. -/
theorem scan_good {at_ : Int} {e : Nat} {n : Nat} {xs : List (List UInt8)} (a0 : 0 ≤ at_) (he : e < 18446744073709551616) (hxs : xs.length ≤ n) (hn : n ≤ 1024) :
    ∀ (f k : Nat) (d : GDisk), d.good → at_.toNat + n ≤ d.secs.length → (∀ i x, xs[i]? = some x → d.secs[at_.toNat + i]? = some (makeS x e i) ∧ x.length ≤ 43) → (xs.length = n ∨ ¬ recS (d.secs.getD (at_.toNat + xs.length) []) e xs.length) → f + k = n → k ≤ xs.length →
    ∃ r, scanGo at_ e f d (xs.take k) = (xs, 0, ⟨d.secs, [], 0, r⟩) := by
  intro f
  induction f with
  | zero =>
    intro k d hg hl hx hend hk hk2
    have : xs.take k = xs := List.take_of_length_le (by omega)
    obtain ⟨h1, h2⟩ := hg
    obtain ⟨s, o, fl, r⟩ := d
    simp only at h1 h2
    subst h1 h2
    exact ⟨r, by rw [this]; rfl⟩
  | succ f ih =>
    intro k d hg hl hx hend hk hk2
    have hlen : (xs.take k).length = k := by simp; omega
    have hha : d.has (at_ + (k : Int)) := ⟨by omega, by omega⟩
    have hto : (at_ + (k : Int)).toNat = at_.toNat + k := by omega
    obtain ⟨r1, r2, r3⟩ := GDisk.read_good hg hha
    rw [scanGo, hlen, Int.toNat_natCast]
    by_cases hkl : k < xs.length
    · obtain ⟨h1, h2⟩ := hx k xs[k] (List.getElem?_eq_getElem hkl)
      have hs : d.secs.getD (at_.toNat + k) [] = makeS xs[k] e k := by rw [List.getD_eq_getElem?_getD, h1]; rfl
      have hr : d.recP (at_ + (k : Int)) e k := by
        rw [GDisk.recP_good hg hha, hto, hs, recS_mk h2 he (by omega)]; exact ⟨rfl, rfl⟩
      have ht : d.recT (at_ + (k : Int)) e k = xs[k] := by
        rw [GDisk.recT, if_pos hr, r2, hto, hs]; exact (rd_mk h2 he (by omega)).1
      rw [if_pos hr, ht, r3, show xs.take k ++ [xs[k]] = xs.take (k + 1) by rw [List.take_add_one, List.getElem?_eq_getElem hkl]; rfl]
      exact ih (k + 1) ⟨d.secs, [], 0, _⟩ ⟨rfl, rfl⟩ hl hx hend (by omega) hkl
    · have hke : k = xs.length := by omega
      have hr : ¬ d.recP (at_ + (k : Int)) e k := by
        rw [GDisk.recP_good hg hha, hto, hke]
        rcases hend with h | h
        · omega
        · exact h
      rw [if_neg hr, r1, r3, show xs.take k = xs from List.take_of_length_le (by omega)]
      exact ⟨_, rfl⟩
theorem scan_good0 {at_ : Int} {e : Nat} {n : Int} {xs : List (List UInt8)} {d : GDisk} (a0 : 0 ≤ at_) (he : e < 18446744073709551616) (n0 : 0 ≤ n) (hn : n ≤ 1024) (hxs : xs.length ≤ n) (hg : d.good) (hl : at_ + n ≤ d.secs.length) (hx : ∀ i x, xs[i]? = some x → d.secs[at_.toNat + i]? = some (makeS x e i) ∧ x.length ≤ 43) (hend : (xs.length : Int) = n ∨ ¬ recS (d.secs.getD (at_.toNat + xs.length) []) e xs.length) :
    ∃ r, scanGo at_ e n.toNat d [] = (xs, 0, ⟨d.secs, [], 0, r⟩) := by
  have h := scan_good (at_ := at_) (e := e) (n := n.toNat) (xs := xs) a0 he (by omega) (by omega) n.toNat 0 d hg (by omega) hx (hend.imp (fun h => by omega) id) (by omega) (Nat.zero_le _)
  simpa using h

end Go.Proofs.YtdoenmokahbeaaaGreatDoor

/- Logs on a disk without faults: what their calls leave. -/
namespace Go.Proofs.YtdoenmokahbeaaaGreatDoor
open Go.RowKit
set_option linter.unusedVariables false
set_option linter.unusedSimpArgs false

theorem wlAppend_good {S : Nat → Prop} {b dk : Nat} {sc : List (List UInt8)} {rd : Int} {at_ n : Int} {e : Nat} {r : Int} {w : World} {l : List UInt8} (hb : w.heap[b]? = some (.cells #[.pointer (some ⟨dk, 0, none⟩), .int .i64 at_, .int .i64 n, .iface 78 (.agg #[.int .u64 (e : Int), .int .i64 r])] 76 (0, 0))) (hd : DiskAt S dk ⟨sc, [], 0, rd⟩ w) (hnb : ¬ S b) (hl : l.length ≤ 43) (a0 : 0 ≤ at_) (a1 : at_ ≤ 1024) (r0 : 0 ≤ r) (r1 : r ≤ 1024) (he : e < 18446744073709551616) (hr : r < n) (ha : at_ + r < sc.length) :
    Calls Tryz.prog 11 #[.pointer (some ⟨b, 0, none⟩), .string ⟨l.toArray⟩] w fun e_ w' => ∃ S', e_ = .returned (.int .i64 0) ∧ w'.heap[b]? = some (.cells #[.pointer (some ⟨dk, 0, none⟩), .int .i64 at_, .int .i64 n, .iface 78 (.agg #[.int .u64 (e : Int), .int .i64 (r + 1)])] 76 (0, 0)) ∧ DiskAt S' dk ⟨sc.set (at_ + r).toNat (makeS l e r.toNat), [], 0, rd⟩ w' ∧ (∀ k, S' k → S k ∨ w.heap.size ≤ k) ∧ ¬ S' b ∧ Keeps (fun k => k = b ∨ S k) w w' := by
  obtain ⟨h1, h2⟩ := GDisk.wrs_good (d := ⟨sc, [], 0, rd⟩) (a := at_ + r) (x := makeS l e r.toNat) ⟨rfl, rfl⟩ ⟨by omega, ha⟩ (makeS_len hl e r.toNat)
  refine (wlAppend_ok hb hd hnb hl a0 a1 r0 r1 he (by simp) hr h1).mono ?_
  rintro e_ w' ⟨g1, g2, S', g3, g4, g5, g6⟩
  rw [h2] at g3
  exact ⟨S', g1, g2, g3, g4, g5, g6⟩
theorem wlScan_good {S : Nat → Prop} {b dk : Nat} {sc : List (List UInt8)} {rd rd' : Int} {at_ n : Int} {stv : Value} {e : Nat} {xs : List (List UInt8)} {w : World} (hb : w.heap[b]? = some (.cells #[.pointer (some ⟨dk, 0, none⟩), .int .i64 at_, .int .i64 n, stv] 76 (0, 0))) (hd : DiskAt S dk ⟨sc, [], 0, rd⟩ w) (hnb : ¬ S b) (a0 : 0 ≤ at_) (a1 : at_ ≤ 1024) (n1 : n ≤ 1024) (he : ¬ e = 0) (he2 : e < 18446744073709551616) (hS : scanGo at_ e n.toNat ⟨sc, [], 0, rd⟩ [] = (xs, 0, ⟨sc, [], 0, rd'⟩)) :
    Calls Tryz.prog 15 #[.pointer (some ⟨b, 0, none⟩), .int .u64 (e : Int)] w fun e_ w' => ∃ A c, e_ = .returned (.tuple #[.slice A xs.length c, .int .i64 0]) ∧ w'.heap[b]? = some (.cells #[.pointer (some ⟨dk, 0, none⟩), .int .i64 at_, .int .i64 n, .iface 78 (.agg #[.int .u64 (e : Int), .int .i64 (xs.length : Int)])] 76 (0, 0)) ∧ OwAt strC 1 9 A c xs w' ∧ (∀ i, blk A = some i → w.heap.size ≤ i) ∧ DiskAt S dk ⟨sc, [], 0, rd'⟩ w' ∧ (∀ i, blk A = some i → ¬ S i) ∧ Keeps (fun k => k = b ∨ S k) w w' := by
  refine (wlScan_ok hb hd hnb a0 a1 n1 he he2 (by rw [hS])).mono ?_
  rintro e_ w' ⟨A, c, g1, g2, g3, g4, g5, g6, g7⟩
  rw [hS] at g1 g2 g3 g5
  exact ⟨A, c, g1, g2, g3, g4, g5, g6, g7⟩

end Go.Proofs.YtdoenmokahbeaaaGreatDoor
