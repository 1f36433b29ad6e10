/- Wl4, Wl5, Wl6: one behind the other. -/
import Derived.Test.YtdoenmokahbeaaaDoorWlA

/- Logs on a disk without faults, plainly. -/
namespace Go.Proofs.YtdoenmokahbeaaaDoor
open Go.RowKit
set_option linter.unusedVariables false
set_option linter.unusedSimpArgs false

/-- no fault to come, nothing open -/
def GDisk.good (d : GDisk) : Prop := d.fail = 0 ∧ d.opn = []
/-- a sector's record -/
def recS (s : List UInt8) (e i : Nat) : Prop := isCell s ∧ rdE s = e ∧ rdN s = i
namespace GDisk
section
variable {d : GDisk} {a : Int} {x : List UInt8}
theorem read_good (h : d.good) (ha : d.has a) : d.readE a = 0 ∧ d.readT a = d.secs.getD a.toNat [] ∧ d.readD a = ⟨d.secs, [], 0, IntKind.i64.wrap (d.reads + 1)⟩ := by
  obtain ⟨hf, ho⟩ := h
  obtain ⟨e1, e2, e3⟩ := read_ok ha (show ¬ d.fail = 1 by omega)
  refine ⟨e2, ?_, ?_⟩
  · rw [e1, at_, ho]; rfl
  · rw [e3, hf, ho]; rfl
theorem wrs_good (h : d.good) (ha : d.has a) (hx : x.length = 64) : d.wrsE a x = 0 ∧ d.wrsD a x = ⟨d.secs.set a.toNat x, [], 0, d.reads⟩ := by
  obtain ⟨hf, ho⟩ := h
  obtain ⟨e1, e2⟩ := write_ok (d := d) ⟨ha, hx⟩ (show ¬ d.fail = 1 by omega)
  obtain ⟨e3, e4⟩ := wrs_ok e1
  have h2 : (d.writeD a x) = ⟨d.secs, [(a, x)], 0, d.reads⟩ := by rw [e2, ho, hf]; rfl
  have hf2 : ¬ (d.writeD a x).fail = 1 := by rw [h2]; simp
  obtain ⟨e5, e6⟩ := flush_ok hf2
  refine ⟨by rw [e3, e5], ?_⟩
  rw [e4, e6, h2]; rfl
theorem recP_good (h : d.good) (ha : d.has a) {e i : Nat} : d.recP a e i ↔ recS (d.secs.getD a.toNat []) e i := by
  obtain ⟨e1, e2, e3⟩ := read_good h ha
  unfold recP recS
  rw [e1, e2]; simp
end
end GDisk
theorem recS_mk {p : List UInt8} {e n e' i : Nat} (hp : p.length ≤ 43) (he : e < 18446744073709551616) (hn : n < 18446744073709551616) : recS (makeS p e n) e' i ↔ e = e' ∧ n = i := by
  obtain ⟨h1, h2, h3, h4⟩ := rd_mk hp he hn
  unfold recS
  rw [h2, h3]
  exact ⟨fun k => k.2, fun k => ⟨of_decide_eq_true h4, k⟩⟩
theorem recS_zero {e i : Nat} (he : ¬ e = 0) : ¬ recS (List.replicate 64 0) e i := fun h => by
  have h2 := h.2.1
  rw [rdE, if_pos h.1] at h2
  have : epS (List.replicate 64 0) = 0 := by decide
  omega
/-- What a scan of a good disk tells. -/
theorem scan_good {at_ : Int} {e : Nat} {n : Nat} {xs : List (List UInt8)} (a0 : 0 ≤ at_) (he : e < 18446744073709551616) (hxs : xs.length ≤ n) (hn : n ≤ 1024) :
    ∀ (f k : Nat) (d : GDisk), d.good → at_.toNat + n ≤ d.secs.length → (∀ i x, xs[i]? = some x → d.secs[at_.toNat + i]? = some (makeS x e i) ∧ x.length ≤ 43) → (xs.length = n ∨ ¬ recS (d.secs.getD (at_.toNat + xs.length) []) e xs.length) → f + k = n → k ≤ xs.length →
    ∃ r, scanGo at_ e f d (xs.take k) = (xs, 0, ⟨d.secs, [], 0, r⟩) := by
  intro f
  induction f with
  | zero =>
    intro k d hg hl hx hend hk hk2
    have : xs.take k = xs := List.take_of_length_le (by omega)
    obtain ⟨h1, h2⟩ := hg
    obtain ⟨s, o, fl, r⟩ := d
    simp only at h1 h2
    subst h1 h2
    exact ⟨r, by rw [this]; rfl⟩
  | succ f ih =>
    intro k d hg hl hx hend hk hk2
    have hlen : (xs.take k).length = k := by simp; omega
    have hha : d.has (at_ + (k : Int)) := ⟨by omega, by omega⟩
    have hto : (at_ + (k : Int)).toNat = at_.toNat + k := by omega
    obtain ⟨r1, r2, r3⟩ := GDisk.read_good hg hha
    rw [scanGo, hlen, Int.toNat_natCast]
    by_cases hkl : k < xs.length
    · obtain ⟨h1, h2⟩ := hx k xs[k] (List.getElem?_eq_getElem hkl)
      have hs : d.secs.getD (at_.toNat + k) [] = makeS xs[k] e k := by rw [List.getD_eq_getElem?_getD, h1]; rfl
      have hr : d.recP (at_ + (k : Int)) e k := by
        rw [GDisk.recP_good hg hha, hto, hs, recS_mk h2 he (by omega)]; exact ⟨rfl, rfl⟩
      have ht : d.recT (at_ + (k : Int)) e k = xs[k] := by
        rw [GDisk.recT, if_pos hr, r2, hto, hs]; exact (rd_mk h2 he (by omega)).1
      rw [if_pos hr, ht, r3, show xs.take k ++ [xs[k]] = xs.take (k + 1) by rw [List.take_add_one, List.getElem?_eq_getElem hkl]; rfl]
      exact ih (k + 1) ⟨d.secs, [], 0, _⟩ ⟨rfl, rfl⟩ hl hx hend (by omega) hkl
    · have hke : k = xs.length := by omega
      have hr : ¬ d.recP (at_ + (k : Int)) e k := by
        rw [GDisk.recP_good hg hha, hto, hke]
        rcases hend with h | h
        · omega
        · exact h
      rw [if_neg hr, r1, r3, show xs.take k = xs from List.take_of_length_le (by omega)]
      exact ⟨_, rfl⟩
theorem scan_good0 {at_ : Int} {e : Nat} {n : Int} {xs : List (List UInt8)} {d : GDisk} (a0 : 0 ≤ at_) (he : e < 18446744073709551616) (n0 : 0 ≤ n) (hn : n ≤ 1024) (hxs : xs.length ≤ n) (hg : d.good) (hl : at_ + n ≤ d.secs.length) (hx : ∀ i x, xs[i]? = some x → d.secs[at_.toNat + i]? = some (makeS x e i) ∧ x.length ≤ 43) (hend : (xs.length : Int) = n ∨ ¬ recS (d.secs.getD (at_.toNat + xs.length) []) e xs.length) :
    ∃ r, scanGo at_ e n.toNat d [] = (xs, 0, ⟨d.secs, [], 0, r⟩) := by
  have h := scan_good (at_ := at_) (e := e) (n := n.toNat) (xs := xs) a0 he (by omega) (by omega) n.toNat 0 d hg (by omega) hx (hend.imp (fun h => by omega) id) (by omega) (Nat.zero_le _)
  simpa using h

end Go.Proofs.YtdoenmokahbeaaaDoor

/- Logs on a disk without faults: what their calls leave. -/
namespace Go.Proofs.YtdoenmokahbeaaaDoor
open Go.RowKit
set_option linter.unusedVariables false
set_option linter.unusedSimpArgs false

theorem wlAppend_good {S : Nat → Prop} {b dk : Nat} {sc : List (List UInt8)} {rd : Int} {at_ n : Int} {e : Nat} {r : Int} {w : World} {l : List UInt8} (hb : w.heap[b]? = some (.cells #[.pointer (some ⟨dk, 0, none⟩), .int .i64 at_, .int .i64 n, .iface 97 (.agg #[.int .u64 (e : Int), .int .i64 r])] 95 (0, 0))) (hd : DiskAt S dk ⟨sc, [], 0, rd⟩ w) (hnb : ¬ S b) (hl : l.length ≤ 43) (a0 : 0 ≤ at_) (a1 : at_ ≤ 1024) (r0 : 0 ≤ r) (r1 : r ≤ 1024) (he : e < 18446744073709551616) (hr : r < n) (ha : at_ + r < sc.length) :
    Calls Tryd.prog 32 #[.pointer (some ⟨b, 0, none⟩), .string ⟨l.toArray⟩] w fun e_ w' => ∃ S', e_ = .returned (.int .i64 0) ∧ w'.heap[b]? = some (.cells #[.pointer (some ⟨dk, 0, none⟩), .int .i64 at_, .int .i64 n, .iface 97 (.agg #[.int .u64 (e : Int), .int .i64 (r + 1)])] 95 (0, 0)) ∧ DiskAt S' dk ⟨sc.set (at_ + r).toNat (makeS l e r.toNat), [], 0, rd⟩ w' ∧ (∀ k, S' k → S k ∨ w.heap.size ≤ k) ∧ ¬ S' b ∧ Keeps (fun k => k = b ∨ S k) w w' := by
  obtain ⟨h1, h2⟩ := GDisk.wrs_good (d := ⟨sc, [], 0, rd⟩) (a := at_ + r) (x := makeS l e r.toNat) ⟨rfl, rfl⟩ ⟨by omega, ha⟩ (makeS_len hl e r.toNat)
  refine (wlAppend_ok hb hd hnb hl a0 a1 r0 r1 he (by simp) hr h1).mono ?_
  rintro e_ w' ⟨g1, g2, S', g3, g4, g5, g6⟩
  rw [h2] at g3
  exact ⟨S', g1, g2, g3, g4, g5, g6⟩
theorem wlScan_good {S : Nat → Prop} {b dk : Nat} {sc : List (List UInt8)} {rd rd' : Int} {at_ n : Int} {stv : Value} {e : Nat} {xs : List (List UInt8)} {w : World} (hb : w.heap[b]? = some (.cells #[.pointer (some ⟨dk, 0, none⟩), .int .i64 at_, .int .i64 n, stv] 95 (0, 0))) (hd : DiskAt S dk ⟨sc, [], 0, rd⟩ w) (hnb : ¬ S b) (a0 : 0 ≤ at_) (a1 : at_ ≤ 1024) (n1 : n ≤ 1024) (he : ¬ e = 0) (he2 : e < 18446744073709551616) (hS : scanGo at_ e n.toNat ⟨sc, [], 0, rd⟩ [] = (xs, 0, ⟨sc, [], 0, rd'⟩)) :
    Calls Tryd.prog 33 #[.pointer (some ⟨b, 0, none⟩), .int .u64 (e : Int)] w fun e_ w' => ∃ A c, e_ = .returned (.tuple #[.slice A xs.length c, .int .i64 0]) ∧ w'.heap[b]? = some (.cells #[.pointer (some ⟨dk, 0, none⟩), .int .i64 at_, .int .i64 n, .iface 97 (.agg #[.int .u64 (e : Int), .int .i64 (xs.length : Int)])] 95 (0, 0)) ∧ OwAt strC 1 9 A c xs w' ∧ (∀ i, blk A = some i → w.heap.size ≤ i) ∧ DiskAt S dk ⟨sc, [], 0, rd'⟩ w' ∧ (∀ i, blk A = some i → ¬ S i) ∧ Keeps (fun k => k = b ∨ S k) w w' := by
  refine (wlScan_ok hb hd hnb a0 a1 n1 he he2 (by rw [hS])).mono ?_
  rintro e_ w' ⟨A, c, g1, g2, g3, g4, g5, g6, g7⟩
  rw [hS] at g1 g2 g3 g5
  exact ⟨A, c, g1, g2, g3, g4, g5, g6, g7⟩

end Go.Proofs.YtdoenmokahbeaaaDoor
namespace Go.Proofs.YtdoenmokahbeaaaDoor
open Go.RowKit
set_option linter.unusedVariables false
set_option linter.unusedSimpArgs false

set_option maxRecDepth 100000 in
theorem l07short_c (l : List UInt8) (n : Nat) (hn : n ≤ 1000000) (hl : l.length ≤ 9223372036854775807) (w : World) : Calls Tryd.prog 31 #[.string ⟨l.toArray⟩, .int .i64 (n : Int)] w fun e w' => ∃ l' : List UInt8, l'.length ≤ n ∧ e = .returned (.string ⟨l'.toArray⟩) ∧ Adds w w' := by
  have K : Keeps (fun _ => False) w w := Keeps.refl _ w
  refine Calls.start Tryd.func31 rfl (by kernel_rfl) ?_
  refine WC.seq ?_
  refine WC.region ?_
  refine WL.op (d := 4) (.string ⟨#[]⟩) (k := ?_)
  refine WL.nil ?_
  refine WX.seqN ?_
  refine WC.seq ?_
  refine WC.seq ?_
  refine WC.region ?_
  refine WL.op (d := 5) (.string ⟨(l).toArray⟩) (k := ?_)
  refine WL.op (d := 6) (.int .i64 (l.length : Int)) (k := ?_)
  refine WL.op (d := 7) (.int .i64 (n : Int)) (k := ?_)
  refine WL.op (d := 8) (.bool (decide ((l.length : Int) > (n : Int)))) (k := ?_)
  refine WL.nil ?_
  refine WX.seqN ?_
  refine WC.cond (b := decide ((l.length : Int) > (n : Int))) (ht := fun h1 => ?_) (hf := fun h1 => ?_)
  · have ph1 := of_decide_eq_true h1
    refine WC.seq ?_
    refine WC.region ?_
    refine WL.op (d := 9) (.string ⟨(l).toArray⟩) (k := ?_)
    refine WL.op (d := 10) (.int .i64 (n : Int)) (k := ?_)
    refine WL.cut (d := 11) (vx := .string ⟨(l).toArray⟩) (lo' := none) (hi' := (some (.int .i64 (n : Int)))) (mx' := none) (v := .string ⟨(List.take n l).toArray⟩) (run_cut (P := Tryd.prog) (w := w) (lo := none) (hi := (some (.int .i64 (n : Int)))) (T := 9) (a := 0) (b := n) (l := l) (by kernel_rfl) (.inl ⟨rfl, rfl⟩) (.inr ⟨_, _, rfl, by omega⟩) (by first | omega | (simp; omega)) (by first | omega | (simp; omega))) (k := ?_)
    refine WL.op (d := 4) (.string ⟨(List.take n l).toArray⟩) (k := ?_)
    refine WL.nil ?_
    refine WX.seqN ?_
    refine WC.ret ?_
    refine WX.seqR ?_
    refine WX.ret (rs := [.tmp 4]) [.string ⟨(List.take n l).toArray⟩] (.string ⟨(List.take n l).toArray⟩) ⟨(by kernel_rfl), trivial⟩ (k := ?_)
    exact ⟨_, (by simp <;> omega), rfl, K⟩
  · have ph1 := of_decide_eq_false h1
    refine WC.skip ?_
    refine WX.seqN ?_
    refine WC.seq ?_
    refine WC.region ?_
    refine WL.op (d := 12) (.string ⟨(l).toArray⟩) (k := ?_)
    refine WL.op (d := 4) (.string ⟨(l).toArray⟩) (k := ?_)
    refine WL.nil ?_
    refine WX.seqN ?_
    refine WC.ret ?_
    refine WX.ret (rs := [.tmp 4]) [.string ⟨(l).toArray⟩] (.string ⟨(l).toArray⟩) ⟨(by kernel_rfl), trivial⟩ (k := ?_)
    exact ⟨_, (by omega), rfl, K⟩

theorem l07aw1 (rd : Int) : ∃ r, scanGo 1 1 (3 : Int).toNat (⟨List.set (List.set (List.replicate 4 (List.replicate 64 (0 : UInt8))) 1 (makeS [97] 1 0)) 2 (makeS [98] 1 1), [], 0, rd⟩ : GDisk) [] = (([[97], [98]] : List (List UInt8)), 0, ⟨List.set (List.set (List.replicate 4 (List.replicate 64 (0 : UInt8))) 1 (makeS [97] 1 0)) 2 (makeS [98] 1 1), [], 0, r⟩) := by
  refine scan_good0 (at_ := 1) (e := 1) (n := 3) (xs := [[97], [98]]) (by decide) (by decide) (by decide) (by decide) (by decide) ⟨rfl, rfl⟩ (by simp) (fun i x hx => ?_) (.inr ?_)
  · match i with
    | 0 => simp at hx; subst hx; exact ⟨rfl, by decide⟩
    | 1 => simp at hx; subst hx; exact ⟨rfl, by decide⟩
    | i + 2 => simp at hx
  · exact recS_zero (by decide)
theorem l07aw2 (rd : Int) : ∃ r, scanGo 1 2 (3 : Int).toNat (⟨List.set (List.set (List.replicate 4 (List.replicate 64 (0 : UInt8))) 1 (makeS [97] 1 0)) 2 (makeS [98] 1 1), [], 0, rd⟩ : GDisk) [] = (([] : List (List UInt8)), 0, ⟨List.set (List.set (List.replicate 4 (List.replicate 64 (0 : UInt8))) 1 (makeS [97] 1 0)) 2 (makeS [98] 1 1), [], 0, r⟩) := by
  refine scan_good0 (at_ := 1) (e := 2) (n := 3) (xs := []) (by decide) (by decide) (by decide) (by decide) (by decide) ⟨rfl, rfl⟩ (by simp) (fun i x hx => by simp at hx) (.inr ?_)
  show ¬ recS (makeS [97] 1 0) 2 0
  rw [recS_mk (by decide) (by decide) (by decide)]; omega

set_option maxRecDepth 100000 in
set_option maxHeartbeats 4000000 in
theorem l07awake_c (w : World) : Calls Tryd.prog 27 #[] w fun e w' => e = .returned (.bool true) ∧ Adds w w' := by
  have K : Keeps (fun _ => False) w w := Keeps.refl _ w
  refine Calls.start Tryd.func27 rfl (by kernel_rfl) ?_
  refine WC.seq ?_
  refine WC.region ?_
  refine WL.op (d := 0) (.bool false) (k := ?_)
  refine WL.nil ?_
  refine WX.seqN ?_
  refine WC.seq ?_
  refine WC.region ?_
  refine WL.callG (d := 9) (f := 28) (args := #[.int .i64 4]) (dNew_ok (n := 4) (by omega) (by omega) w) (k := fun e_ w1 h_ => ?_)
  obtain ⟨b2, S3, rfl, g4, hd5, ho6, k7⟩ := h_
  refine ⟨_, rfl, ?_⟩
  have lk8 : ∀ k, S3 k → False ∨ w.heap.size ≤ k := fun k h => .inr (Nat.le_trans K.size (ho6 k h))
  have z9 := Nat.le_trans K.size g4
  replace K := K.trans (k7.any _)
  change DiskAt S3 b2 (⟨List.replicate 4 (List.replicate 64 (0 : UInt8)), [], 0, 0⟩ : GDisk) w1 at hd5
  have ln10 : (List.replicate 4 (List.replicate 64 (0 : UInt8))).length = 4 := List.length_replicate
  have ln11 : (GDisk.secs (⟨List.replicate 4 (List.replicate 64 (0 : UInt8)), [], 0, 0⟩ : GDisk)).length = 4 := List.length_replicate
  refine WL.callG (d := 10) (f := 29) (args := #[.pointer (some ⟨b2, 0, none⟩), .int .i64 1, .int .i64 3]) (wlNew_ok (at_ := 1) (n := 3) hd5 (by omega) (by omega) ⟨by decide, by decide, by simp⟩) (k := fun e_ w12 h_ => ?_)
  obtain ⟨b13, rfl, g14, hb15, k16⟩ := h_
  refine ⟨_, rfl, ?_⟩
  have z17 := Nat.le_trans K.size g14
  have n18 : ¬ S3 b13 := fun h => absurd (hd5.lt _ h) (Nat.not_lt.2 g14)
  replace hd5 := hd5.adds k16
  replace K := K.trans (k16.any _)
  refine WL.op (d := 1) (.pointer (some ⟨b13, 0, none⟩)) (k := ?_)
  refine WL.nil ?_
  refine WX.seqN ?_
  refine WC.seq ?_
  refine WC.seq ?_
  refine WC.region ?_
  refine WL.op (d := 11) (.pointer (some ⟨b13, 0, none⟩)) (k := ?_)
  refine WL.op (d := 12) (.bool false) (k := ?_)
  refine WL.nil ?_
  refine WX.seqN ?_
  refine WC.condF (k := ?_)
  refine WC.skip ?_
  refine WX.seqN ?_
  refine WC.seq ?_
  refine WC.region ?_
  refine WL.op (d := 13) (.pointer (some ⟨b13, 0, none⟩)) (k := ?_)
  refine WL.callG (d := 14) (f := 30) (args := #[.pointer (some ⟨b13, 0, none⟩), .int .u64 1]) (wlStart_ok (e := 1) hb15 (by omega)) (k := fun e_ w19 h_ => ?_)
  obtain ⟨rfl, hb20, k21⟩ := h_
  refine ⟨_, rfl, ?_⟩
  replace hd5 := hd5.keeps k21 (fun i hi e => n18 (e ▸ hi))
  replace K := K.trans' k21 (fun i hi e => absurd (e ▸ hi) (Nat.not_lt.2 z17))
  clear hb15
  refine WL.op (d := 2) (.int .i64 0) (k := ?_)
  refine WL.nil ?_
  refine WX.seqN ?_
  refine WC.seq ?_
  refine WC.region ?_
  refine WL.op (d := 15) (.pointer (some ⟨b13, 0, none⟩)) (k := ?_)
  refine WL.callG (d := 16) (f := 32) (args := #[.pointer (some ⟨b13, 0, none⟩), .string ⟨#[97]⟩]) (wlAppend_good (l := [97]) (e := 1) (r := 0) hb20 hd5 n18 (by show List.length [97] ≤ 43; first | omega | (simp; done) | (simp; omega)) (by omega) (by omega) (by omega) (by omega) (by omega) (by omega) (by omega)) (k := fun e_ w22 h_ => ?_)
  obtain ⟨S23, rfl, hb24, hd25, lk26, n27, k28⟩ := h_
  refine ⟨_, rfl, ?_⟩
  have lk29 := lk_step lk8 lk26 K
  replace K := K.trans' k28 (fun i hi e => e.elim (fun e => absurd (e ▸ hi) (Nat.not_lt.2 z17)) (fun e => (lk8 i e).elim (fun h => h.elim) (fun h => absurd hi (Nat.not_lt.2 h))))
  clear hb20
  clear hd5
  change DiskAt S23 b2 (⟨List.set (List.replicate 4 (List.replicate 64 (0 : UInt8))) 1 (makeS [97] 1 0), [], 0, 0⟩ : GDisk) w22 at hd25
  have ln30 : (List.set (List.replicate 4 (List.replicate 64 (0 : UInt8))) 1 (makeS [97] 1 0)).length = List.length (List.replicate 4 (List.replicate 64 (0 : UInt8))) := List.length_set ..
  refine WL.op (d := 3) (.int .i64 0) (k := ?_)
  refine WL.nil ?_
  refine WX.seqN ?_
  refine WC.seq ?_
  refine WC.region ?_
  refine WL.op (d := 17) (.pointer (some ⟨b13, 0, none⟩)) (k := ?_)
  refine WL.callG (d := 18) (f := 32) (args := #[.pointer (some ⟨b13, 0, none⟩), .string ⟨#[98]⟩]) (wlAppend_good (l := [98]) (e := 1) (r := 1) hb24 hd25 n27 (by show List.length [98] ≤ 43; first | omega | (simp; done) | (simp; omega)) (by omega) (by omega) (by omega) (by omega) (by omega) (by omega) (by omega)) (k := fun e_ w31 h_ => ?_)
  obtain ⟨S32, rfl, hb33, hd34, lk35, n36, k37⟩ := h_
  refine ⟨_, rfl, ?_⟩
  have lk38 := lk_step lk29 lk35 K
  replace K := K.trans' k37 (fun i hi e => e.elim (fun e => absurd (e ▸ hi) (Nat.not_lt.2 z17)) (fun e => (lk29 i e).elim (fun h => h.elim) (fun h => absurd hi (Nat.not_lt.2 h))))
  clear hb24
  clear hd25
  change DiskAt S32 b2 (⟨List.set (List.set (List.replicate 4 (List.replicate 64 (0 : UInt8))) 1 (makeS [97] 1 0)) 2 (makeS [98] 1 1), [], 0, 0⟩ : GDisk) w31 at hd34
  have ln39 : (List.set (List.set (List.replicate 4 (List.replicate 64 (0 : UInt8))) 1 (makeS [97] 1 0)) 2 (makeS [98] 1 1)).length = List.length (List.set (List.replicate 4 (List.replicate 64 (0 : UInt8))) 1 (makeS [97] 1 0)) := List.length_set ..
  refine WL.op (d := 4) (.int .i64 0) (k := ?_)
  refine WL.nil ?_
  refine WX.seqN ?_
  refine WC.seq ?_
  refine WC.region ?_
  refine WL.op (d := 20) (.pointer (some ⟨b13, 0, none⟩)) (k := ?_)
  obtain ⟨r40, hs41⟩ : ∃ r, scanGo 1 1 (3 : Int).toNat (⟨List.set (List.set (List.replicate 4 (List.replicate 64 (0 : UInt8))) 1 (makeS [97] 1 0)) 2 (makeS [98] 1 1), [], 0, 0⟩ : GDisk) [] = (([[97], [98]] : List (List UInt8)), 0, ⟨List.set (List.set (List.replicate 4 (List.replicate 64 (0 : UInt8))) 1 (makeS [97] 1 0)) 2 (makeS [98] 1 1), [], 0, r⟩) := l07aw1 _
  refine WL.callG (d := 21) (f := 33) (args := #[.pointer (some ⟨b13, 0, none⟩), .int .u64 1]) (wlScan_good (e := 1) (xs := ([[97], [98]] : List (List UInt8))) hb33 hd34 n36 (by omega) (by omega) (by omega) (by omega) (by omega) hs41) (k := fun e_ w42 h_ => ?_)
  obtain ⟨A43, c44, rfl, hb45, ho46, ol47, hd48, n49, k50⟩ := h_
  refine ⟨_, rfl, ?_⟩
  have ol51 := fun i h => Nat.le_trans K.size (ol47 i h)
  have ln52 : List.length ([[97], [98]] : List (List UInt8)) = 2 := rfl
  replace K := K.trans' k50 (fun i hi e => e.elim (fun e => absurd (e ▸ hi) (Nat.not_lt.2 z17)) (fun e => (lk38 i e).elim (fun h => h.elim) (fun h => absurd hi (Nat.not_lt.2 h))))
  clear hb33
  clear hd34 ol47
  refine WL.op (d := 19) (.tuple #[.slice A43 2 c44, .int .i64 0]) (k := ?_)
  refine WL.op (d := 22) (.slice A43 2 c44) (k := ?_)
  refine WL.op (d := 23) (.int .i64 0) (k := ?_)
  refine WL.op (d := 5) (.slice A43 2 c44) (k := ?_)
  refine WL.op (d := 6) (.int .i64 0) (k := ?_)
  refine WL.nil ?_
  refine WX.seqN ?_
  refine WC.seq ?_
  refine WC.region ?_
  refine WL.op (d := 25) (.pointer (some ⟨b13, 0, none⟩)) (k := ?_)
  obtain ⟨r53, hs54⟩ : ∃ r, scanGo 1 2 (3 : Int).toNat (⟨List.set (List.set (List.replicate 4 (List.replicate 64 (0 : UInt8))) 1 (makeS [97] 1 0)) 2 (makeS [98] 1 1), [], 0, r40⟩ : GDisk) [] = (([] : List (List UInt8)), 0, ⟨List.set (List.set (List.replicate 4 (List.replicate 64 (0 : UInt8))) 1 (makeS [97] 1 0)) 2 (makeS [98] 1 1), [], 0, r⟩) := l07aw2 _
  refine WL.callG (d := 26) (f := 33) (args := #[.pointer (some ⟨b13, 0, none⟩), .int .u64 2]) (wlScan_good (e := 2) (xs := ([] : List (List UInt8))) hb45 hd48 n36 (by omega) (by omega) (by omega) (by omega) (by omega) hs54) (k := fun e_ w55 h_ => ?_)
  obtain ⟨A56, c57, rfl, hb58, ho59, ol60, hd61, n62, k63⟩ := h_
  refine ⟨_, rfl, ?_⟩
  have ol64 := fun i h => Nat.le_trans K.size (ol60 i h)
  have ln65 : List.length ([] : List (List UInt8)) = 0 := rfl
  replace K := K.trans' k63 (fun i hi e => e.elim (fun e => absurd (e ▸ hi) (Nat.not_lt.2 z17)) (fun e => (lk38 i e).elim (fun h => h.elim) (fun h => absurd hi (Nat.not_lt.2 h))))
  replace ho46 := ho46.keeps k63 (fun i hi h => h.elim (fun h => (ho46.offT hb45 (by decide)) (h ▸ hi)) (n49 i hi))
  clear hb45
  clear hd48 ol60
  refine WL.op (d := 24) (.tuple #[.slice A56 0 c57, .int .i64 0]) (k := ?_)
  refine WL.op (d := 27) (.slice A56 0 c57) (k := ?_)
  refine WL.op (d := 28) (.int .i64 0) (k := ?_)
  refine WL.op (d := 7) (.slice A56 0 c57) (k := ?_)
  refine WL.op (d := 8) (.int .i64 0) (k := ?_)
  refine WL.nil ?_
  refine WX.seqN ?_
  refine WC.seq ?_
  refine WC.region ?_
  refine WL.op (d := 29) (.int .i64 0) (k := ?_)
  refine WL.op (d := 30) (.bool true) (k := ?_)
  refine WL.op (d := 31) (.bool true) (k := ?_)
  refine WL.op (d := 32) (.int .i64 0) (k := ?_)
  refine WL.op (d := 33) (.bool true) (k := ?_)
  refine WL.op (d := 34) (.bool true) (k := ?_)
  refine WL.op (d := 35) (.bool true) (k := ?_)
  refine WL.op (d := 36) (.int .i64 0) (k := ?_)
  refine WL.op (d := 37) (.bool true) (k := ?_)
  refine WL.op (d := 38) (.bool true) (k := ?_)
  refine WL.op (d := 39) (.bool true) (k := ?_)
  refine WL.op (d := 40) (.int .i64 0) (k := ?_)
  refine WL.op (d := 41) (.bool true) (k := ?_)
  refine WL.op (d := 42) (.bool true) (k := ?_)
  refine WL.op (d := 43) (.bool true) (k := ?_)
  refine WL.op (d := 44) (.int .i64 0) (k := ?_)
  refine WL.op (d := 45) (.bool true) (k := ?_)
  refine WL.op (d := 46) (.bool true) (k := ?_)
  refine WL.op (d := 47) (.bool true) (k := ?_)
  refine WL.op (d := 48) (.slice A43 2 c44) (k := ?_)
  refine WL.op (d := 49) (.int .i64 2) (k := ?_)
  refine WL.op (d := 50) (.bool true) (k := ?_)
  refine WL.op (d := 51) (.bool true) (k := ?_)
  refine WL.op (d := 52) (.bool true) (k := ?_)
  refine WL.op (d := 53) (.slice A43 2 c44) (k := ?_)
  obtain ⟨b66, o67, r68, hr69, hA70, he71⟩ := SlAt.at (ho46.sl ekStr) (i := 0) (by omega) (by omega)
  refine WL.rw (t := 53) (v := .slice (some ⟨b66, o67, none⟩) 2 c44) (congrArg (fun a => Value.slice a 2 c44) hA70) (k := ?_)
  refine WL.idx (T := 44) (E := 9) (m := 1) (b := b66) (o := o67) (len := 2) (cap := c44) (i := 0) (kk := .i64) (d := 54) (by omega) (by omega) (k := ?_)
  refine WL.rw (t := 53) (v := .slice A43 2 c44) (congrArg (fun a => Value.slice a 2 c44) (Eq.symm hA70)) (k := ?_)
  refine WL.load (v := .string ⟨(r68).toArray⟩) (he71.ld0 (T := 9)) (k := ?_)
  refine WL.opE (d := 56) (.bool (ByteArray.toList ⟨(r68).toArray⟩ == ByteArray.toList ⟨([97]).toArray⟩)) (v := .bool (decide (r68 = [97]))) (str_eql _ _) (k := ?_)
  refine WL.op (d := 57) (.bool (decide (r68 = [97]))) (k := ?_)
  refine WL.op (d := 58) (.bool (decide (r68 = [97]))) (k := ?_)
  refine bsplit (decide (r68 = [97])) (fun h72 => ?_) (fun h72 => ?_)
  · have ph72 := of_decide_eq_true h72
    refine WL.rw (t := 58) (v := .bool true) (congrArg Value.bool h72) (k := ?_)
    refine WL.op (d := 59) (.slice A43 2 c44) (k := ?_)
    obtain ⟨b73, o74, r75, hr76, hA77, he78⟩ := SlAt.at (ho46.sl ekStr) (i := 1) (by omega) (by omega)
    refine WL.rw (t := 59) (v := .slice (some ⟨b73, o74, none⟩) 2 c44) (congrArg (fun a => Value.slice a 2 c44) hA77) (k := ?_)
    refine WL.idx (T := 44) (E := 9) (m := 1) (b := b73) (o := o74) (len := 2) (cap := c44) (i := 1) (kk := .i64) (d := 60) (by omega) (by omega) (k := ?_)
    refine WL.rw (t := 59) (v := .slice A43 2 c44) (congrArg (fun a => Value.slice a 2 c44) (Eq.symm hA77)) (k := ?_)
    refine WL.load (v := .string ⟨(r75).toArray⟩) (he78.ld0 (T := 9)) (k := ?_)
    refine WL.opE (d := 62) (.bool (ByteArray.toList ⟨(r75).toArray⟩ == ByteArray.toList ⟨([98]).toArray⟩)) (v := .bool (decide (r75 = [98]))) (str_eql _ _) (k := ?_)
    refine WL.op (d := 63) (.bool (decide (r75 = [98]))) (k := ?_)
    refine WL.op (d := 64) (.bool (decide (r75 = [98]))) (k := ?_)
    refine bsplit (decide (r75 = [98])) (fun h79 => ?_) (fun h79 => ?_)
    · have ph79 := of_decide_eq_true h79
      refine WL.rw (t := 64) (v := .bool true) (congrArg Value.bool h79) (k := ?_)
      refine WL.op (d := 65) (.slice A56 0 c57) (k := ?_)
      refine WL.op (d := 66) (.int .i64 0) (k := ?_)
      refine WL.op (d := 67) (.bool true) (k := ?_)
      refine WL.op (d := 68) (.bool true) (k := ?_)
      refine WL.op (d := 0) (.bool true) (k := ?_)
      refine WL.nil ?_
      refine WX.seqN ?_
      refine WC.ret ?_
      refine WX.ret (rs := [.tmp 0]) [.bool true] (.bool true) ⟨(by kernel_rfl), trivial⟩ (k := ?_)
      exact ⟨rfl, K⟩
    · have ph79 := of_decide_eq_false h79
      refine WL.rw (t := 64) (v := .bool false) (congrArg Value.bool h79) (k := ?_)
      refine WL.skip (d := 65) (k := ?_)
      refine WL.skip (d := 66) (k := ?_)
      refine WL.skip (d := 67) (k := ?_)
      refine WL.op (d := 68) (.bool false) (k := ?_)
      refine WL.op (d := 0) (.bool false) (k := ?_)
      refine WL.nil ?_
      refine WX.seqN ?_
      refine WC.ret ?_
      refine WX.ret (rs := [.tmp 0]) [.bool false] (.bool false) ⟨(by kernel_rfl), trivial⟩ (k := ?_)
      exact absurd (Option.some.inj (show some [98] = some r75 from hr76)).symm ph79
  · have ph72 := of_decide_eq_false h72
    refine WL.rw (t := 58) (v := .bool false) (congrArg Value.bool h72) (k := ?_)
    refine WL.skip (d := 59) (k := ?_)
    refine WL.skip (d := 60) (k := ?_)
    refine WL.skip (d := 61) (k := ?_)
    refine WL.skip (d := 62) (k := ?_)
    refine WL.op (d := 63) (.bool false) (k := ?_)
    refine WL.op (d := 64) (.bool false) (k := ?_)
    refine WL.skip (d := 65) (k := ?_)
    refine WL.skip (d := 66) (k := ?_)
    refine WL.skip (d := 67) (k := ?_)
    refine WL.op (d := 68) (.bool false) (k := ?_)
    refine WL.op (d := 0) (.bool false) (k := ?_)
    refine WL.nil ?_
    refine WX.seqN ?_
    refine WC.ret ?_
    refine WX.ret (rs := [.tmp 0]) [.bool false] (.bool false) ⟨(by kernel_rfl), trivial⟩ (k := ?_)
    exact absurd (Option.some.inj (show some [97] = some r68 from hr69)).symm ph72

set_option maxRecDepth 100000 in
set_option maxHeartbeats 4000000 in
theorem lWalNil_c (x at_ k : Int) (z0 : (-9223372036854775808 ≤ at_ ∧ at_ ≤ 9223372036854775807)) (z1 : (-9223372036854775808 ≤ k ∧ k ≤ 9223372036854775807)) (w : World) : Calls Tryd.prog 10 #[.int .i64 x, .int .i64 at_, .int .i64 k] w fun e w' => e = .returned (.bool true) ∧ Adds w w' := by
  have K : Keeps (fun _ => False) w w := Keeps.refl _ w
  refine Calls.start Tryd.func10 rfl (by kernel_rfl) ?_
  refine WC.seq ?_
  refine WC.region ?_
  refine WL.op (d := 6) (.bool false) (k := ?_)
  refine WL.nil ?_
  refine WX.seqN ?_
  refine WC.seq ?_
  refine WC.region ?_
  refine WL.op (d := 13) (.int .i64 x) (k := ?_)
  refine WL.bin (d := 14) (v := .int .i64 (Int.tmod x 20)) (rem_run (by omega)) (k := ?_)
  have m1 := tmod_rng x 20 (by omega)
  obtain ⟨r2, e3⟩ : ∃ r : Int, Int.tmod x 20 = r := ⟨_, rfl⟩
  rw [e3] at m1
  refine WL.rw (t := 14) (v := .int .i64 r2) (congrArg (Value.int .i64) e3) (k := ?_)
  refine WL.opE (d := 15) (.int .i64 (IntKind.i64.wrap (r2 + 20))) (v := .int .i64 (r2 + 20)) (congrArg (Value.int .i64) (IntWalk.i64_in _ (by omega))) (k := ?_)
  refine WL.bin (d := 16) (v := .int .i64 (Int.tmod (r2 + 20) 20)) (rem_run (by omega)) (k := ?_)
  have m4 := tmod_rng (r2 + 20) 20 (by omega)
  obtain ⟨r5, e6⟩ : ∃ r : Int, Int.tmod (r2 + 20) 20 = r := ⟨_, rfl⟩
  rw [e6] at m4
  refine WL.rw (t := 16) (v := .int .i64 r5) (congrArg (Value.int .i64) e6) (k := ?_)
  refine WL.opE (d := 17) (.int .i64 (IntKind.i64.wrap (1 + r5))) (v := .int .i64 (1 + r5)) (congrArg (Value.int .i64) (IntWalk.i64_in _ (by omega))) (k := ?_)
  refine WL.op (d := 7) (.int .i64 (1 + r5)) (k := ?_)
  refine WL.nil ?_
  refine WX.seqN ?_
  refine WC.seq ?_
  obtain ⟨m, hm⟩ : ∃ q : Nat, 1 + r5 = (q : Int) := ⟨Int.toNat (1 + r5), by omega⟩
  refine WC.rw (t := 7) (v := .int .i64 (m : Int)) (congrArg (Value.int .i64) hm) (k := ?_)
  refine WC.region ?_
  refine WL.op (d := 18) (.int .i64 (m : Int)) (k := ?_)
  refine WL.callG (d := 19) (f := 28) (args := #[.int .i64 (m : Int)]) (dNew_ok (n := m) (by omega) (by omega) w) (k := fun e_ w7 h_ => ?_)
  obtain ⟨b8, S9, rfl, g10, hd11, ho12, k13⟩ := h_
  refine ⟨_, rfl, ?_⟩
  have lk14 : ∀ k, S9 k → False ∨ w.heap.size ≤ k := fun k h => .inr (Nat.le_trans K.size (ho12 k h))
  have z15 := Nat.le_trans K.size g10
  replace K := K.trans (k13.any _)
  change DiskAt S9 b8 (⟨List.replicate m (List.replicate 64 (0 : UInt8)), [], 0, 0⟩ : GDisk) w7 at hd11
  have ln16 : (List.replicate m (List.replicate 64 (0 : UInt8))).length = m := List.length_replicate
  have ln17 : (GDisk.secs (⟨List.replicate m (List.replicate 64 (0 : UInt8)), [], 0, 0⟩ : GDisk)).length = m := List.length_replicate
  refine WL.op (d := 20) (.int .i64 at_) (k := ?_)
  refine WL.op (d := 21) (.int .i64 k) (k := ?_)
  refine bsplit (decide (0 ≤ at_ ∧ 1 ≤ k ∧ at_ ≤ ((GDisk.secs (⟨List.replicate m (List.replicate 64 (0 : UInt8)), [], 0, 0⟩ : GDisk)).length : Int) - k)) (fun h18 => ?_) (fun h18 => ?_)
  · have ph18 := of_decide_eq_true h18
    refine WL.callG (d := 22) (f := 29) (args := #[.pointer (some ⟨b8, 0, none⟩), .int .i64 at_, .int .i64 k]) (wlNew_ok (at_ := at_) (n := k) hd11 (by omega) (by omega) ph18) (k := fun e_ w19 h_ => ?_)
    obtain ⟨b20, rfl, g21, hb22, k23⟩ := h_
    refine ⟨_, rfl, ?_⟩
    have z24 := Nat.le_trans K.size g21
    have n25 : ¬ S9 b20 := fun h => absurd (hd11.lt _ h) (Nat.not_lt.2 g21)
    replace hd11 := hd11.adds k23
    replace K := K.trans (k23.any _)
    refine WL.op (d := 8) (.pointer (some ⟨b20, 0, none⟩)) (k := ?_)
    refine WL.nil ?_
    refine WX.seqN ?_
    refine WC.seq ?_
    refine WC.region ?_
    refine WL.op (d := 9) (.pointer none) (k := ?_)
    refine WL.nil ?_
    refine WX.seqN ?_
    refine WC.seq ?_
    refine WC.region ?_
    refine WL.op (d := 24) (.pointer none) (k := ?_)
    refine WL.callG (d := 25) (f := 33) (args := #[.pointer none, .int .u64 1]) (wlScan_nil (e := 1) w19) (k := fun e_ w26 h_ => ⟨.tuple #[.slice none 0 0, .int .i64 1], h_.1, ?_⟩)
    have k27 := h_.2; clear h_
    replace hd11 := hd11.adds k27
    replace hb22 := k27.heap hb22 id
    replace K := K.trans (k27.any _)
    refine WL.op (d := 23) (.tuple #[.slice none 0 0, .int .i64 1]) (k := ?_)
    refine WL.op (d := 26) (.slice none 0 0) (k := ?_)
    refine WL.op (d := 27) (.int .i64 1) (k := ?_)
    refine WL.op (d := 10) (.slice none 0 0) (k := ?_)
    refine WL.op (d := 11) (.int .i64 1) (k := ?_)
    refine WL.nil ?_
    refine WX.seqN ?_
    refine WC.seq ?_
    refine WC.region ?_
    refine WL.op (d := 28) (.int .i64 at_) (k := ?_)
    refine WL.op (d := 29) (.bool (decide (at_ ≥ 0))) (k := ?_)
    refine WL.op (d := 30) (.bool (decide (at_ ≥ 0))) (k := ?_)
    refine bsplit (decide (at_ ≥ 0)) (fun h28 => ?_) (fun h28 => ?_)
    · have ph28 := of_decide_eq_true h28
      refine WL.rw (t := 30) (v := .bool true) (congrArg Value.bool h28) (k := ?_)
      refine WL.op (d := 31) (.int .i64 k) (k := ?_)
      refine WL.op (d := 32) (.bool (decide (k ≥ 1))) (k := ?_)
      refine WL.op (d := 33) (.bool (decide (k ≥ 1))) (k := ?_)
      refine WL.op (d := 34) (.bool (decide (k ≥ 1))) (k := ?_)
      refine bsplit (decide (k ≥ 1)) (fun h29 => ?_) (fun h29 => ?_)
      · have ph29 := of_decide_eq_true h29
        refine WL.rw (t := 34) (v := .bool true) (congrArg Value.bool h29) (k := ?_)
        refine WL.op (d := 35) (.int .i64 at_) (k := ?_)
        refine WL.op (d := 36) (.int .i64 (m : Int)) (k := ?_)
        refine WL.op (d := 37) (.int .i64 k) (k := ?_)
        refine WL.opE (d := 38) (.int .i64 (IntKind.i64.wrap ((m : Int) - k))) (v := .int .i64 ((m : Int) - k)) (congrArg (Value.int .i64) (IntWalk.i64_in _ (by omega))) (k := ?_)
        refine WL.op (d := 39) (.bool (decide (at_ ≤ ((m : Int) - k)))) (k := ?_)
        refine WL.op (d := 40) (.bool (decide (at_ ≤ ((m : Int) - k)))) (k := ?_)
        refine WL.op (d := 12) (.bool (decide (at_ ≤ ((m : Int) - k)))) (k := ?_)
        refine WL.nil ?_
        refine WX.seqN ?_
        refine WC.seq ?_
        refine WC.region ?_
        refine WL.callG (d := 41) (f := 27) (args := #[]) (l07awake_c w26) (k := fun e_ w30 h_ => ⟨.bool true, h_.1, ?_⟩)
        have k31 := h_.2; clear h_
        replace hd11 := hd11.adds k31
        replace hb22 := k31.heap hb22 id
        replace K := K.trans (k31.any _)
        refine WL.op (d := 42) (.bool true) (k := ?_)
        refine WL.op (d := 43) (.pointer (some ⟨b20, 0, none⟩)) (k := ?_)
        refine WL.op (d := 44) (.bool true) (k := ?_)
        refine WL.op (d := 45) (.bool (decide (at_ ≤ ((m : Int) - k)))) (k := ?_)
        refine WL.op (d := 46) (.bool (true == (decide (at_ ≤ ((m : Int) - k))))) (k := ?_)
        refine WL.op (d := 47) (.bool (true == (decide (at_ ≤ ((m : Int) - k))))) (k := ?_)
        refine WL.op (d := 48) (.bool (true == (decide (at_ ≤ ((m : Int) - k))))) (k := ?_)
        refine bsplit (true == (decide (at_ ≤ ((m : Int) - k)))) (fun h32 => ?_) (fun h32 => ?_)
        · have ph32 := eq_of_beq h32
          refine WL.rw (t := 48) (v := .bool true) (congrArg Value.bool h32) (k := ?_)
          refine WL.op (d := 49) (.slice none 0 0) (k := ?_)
          refine WL.op (d := 50) (.int .i64 0) (k := ?_)
          refine WL.op (d := 51) (.bool true) (k := ?_)
          refine WL.op (d := 52) (.bool true) (k := ?_)
          refine WL.op (d := 53) (.bool true) (k := ?_)
          refine WL.op (d := 54) (.int .i64 1) (k := ?_)
          refine WL.op (d := 55) (.bool true) (k := ?_)
          refine WL.op (d := 56) (.bool true) (k := ?_)
          refine WL.op (d := 57) (.bool true) (k := ?_)
          refine WL.op (d := 58) (.pointer none) (k := ?_)
          refine WL.callG (d := 59) (f := 30) (args := #[.pointer none, .int .u64 1]) (wlStart_nil (e := 1) w30) (k := fun e_ w33 h_ => ⟨.int .i64 1, h_.1, ?_⟩)
          have k34 := h_.2; clear h_
          replace hd11 := hd11.adds k34
          replace hb22 := k34.heap hb22 id
          replace K := K.trans (k34.any _)
          refine WL.op (d := 60) (.bool true) (k := ?_)
          refine WL.op (d := 61) (.bool true) (k := ?_)
          refine WL.op (d := 62) (.bool true) (k := ?_)
          refine WL.op (d := 63) (.pointer none) (k := ?_)
          refine WL.callG (d := 64) (f := 32) (args := #[.pointer none, .string ⟨#[]⟩]) (wlAppend_nil (l := []) w33) (k := fun e_ w35 h_ => ⟨.int .i64 1, h_.1, ?_⟩)
          have k36 := h_.2; clear h_
          replace hd11 := hd11.adds k36
          replace hb22 := k36.heap hb22 id
          replace K := K.trans (k36.any _)
          refine WL.op (d := 65) (.bool true) (k := ?_)
          refine WL.op (d := 66) (.bool true) (k := ?_)
          refine WL.op (d := 67) (.bool true) (k := ?_)
          refine WL.op (d := 68) (.pointer none) (k := ?_)
          refine WL.callG (d := 69) (f := 35) (args := #[.pointer none]) (wlLeft_nil w35) (k := fun e_ w37 h_ => ⟨.int .i64 0, h_.1, ?_⟩)
          have k38 := h_.2; clear h_
          replace hd11 := hd11.adds k38
          replace hb22 := k38.heap hb22 id
          replace K := K.trans (k38.any _)
          refine WL.op (d := 70) (.bool true) (k := ?_)
          refine WL.op (d := 71) (.bool true) (k := ?_)
          refine WL.op (d := 72) (.bool true) (k := ?_)
          refine WL.op (d := 73) (.pointer none) (k := ?_)
          refine WL.callG (d := 74) (f := 34) (args := #[.pointer none]) (wlLen_nil w37) (k := fun e_ w39 h_ => ⟨.int .i64 0, h_.1, ?_⟩)
          have k40 := h_.2; clear h_
          replace hd11 := hd11.adds k40
          replace hb22 := k40.heap hb22 id
          replace K := K.trans (k40.any _)
          refine WL.op (d := 75) (.bool true) (k := ?_)
          refine WL.op (d := 76) (.bool true) (k := ?_)
          refine WL.op (d := 77) (.bool true) (k := ?_)
          refine WL.callG (d := 78) (f := 29) (args := #[.pointer none, .int .i64 0, .int .i64 1]) (wlNew_nil (at_ := 0) (n := 1) (by omega) (by omega) w39) (k := fun e_ w41 h_ => ⟨.pointer none, h_.1, ?_⟩)
          have k42 := h_.2; clear h_
          replace hd11 := hd11.adds k42
          replace hb22 := k42.heap hb22 id
          replace K := K.trans (k42.any _)
          refine WL.op (d := 79) (.bool true) (k := ?_)
          refine WL.op (d := 80) (.bool true) (k := ?_)
          refine WL.op (d := 6) (.bool true) (k := ?_)
          refine WL.nil ?_
          refine WX.seqN ?_
          refine WC.ret ?_
          refine WX.ret (rs := [.tmp 6]) [.bool true] (.bool true) ⟨(by kernel_rfl), trivial⟩ (k := ?_)
          exact ⟨rfl, K⟩
        · have ph32 := ne_of_beq_false h32
          refine WL.rw (t := 48) (v := .bool false) (congrArg Value.bool h32) (k := ?_)
          refine WL.skip (d := 49) (k := ?_)
          refine WL.skip (d := 50) (k := ?_)
          refine WL.skip (d := 51) (k := ?_)
          refine WL.op (d := 52) (.bool false) (k := ?_)
          refine WL.op (d := 53) (.bool false) (k := ?_)
          refine WL.skip (d := 54) (k := ?_)
          refine WL.skip (d := 55) (k := ?_)
          refine WL.op (d := 56) (.bool false) (k := ?_)
          refine WL.op (d := 57) (.bool false) (k := ?_)
          refine WL.skip (d := 58) (k := ?_)
          refine WL.skip (d := 59) (k := ?_)
          refine WL.skip (d := 60) (k := ?_)
          refine WL.op (d := 61) (.bool false) (k := ?_)
          refine WL.op (d := 62) (.bool false) (k := ?_)
          refine WL.skip (d := 63) (k := ?_)
          refine WL.skip (d := 64) (k := ?_)
          refine WL.skip (d := 65) (k := ?_)
          refine WL.op (d := 66) (.bool false) (k := ?_)
          refine WL.op (d := 67) (.bool false) (k := ?_)
          refine WL.skip (d := 68) (k := ?_)
          refine WL.skip (d := 69) (k := ?_)
          refine WL.skip (d := 70) (k := ?_)
          refine WL.op (d := 71) (.bool false) (k := ?_)
          refine WL.op (d := 72) (.bool false) (k := ?_)
          refine WL.skip (d := 73) (k := ?_)
          refine WL.skip (d := 74) (k := ?_)
          refine WL.skip (d := 75) (k := ?_)
          refine WL.op (d := 76) (.bool false) (k := ?_)
          refine WL.op (d := 77) (.bool false) (k := ?_)
          refine WL.skip (d := 78) (k := ?_)
          refine WL.skip (d := 79) (k := ?_)
          refine WL.op (d := 80) (.bool false) (k := ?_)
          refine WL.op (d := 6) (.bool false) (k := ?_)
          refine WL.nil ?_
          refine WX.seqN ?_
          refine WC.ret ?_
          refine WX.ret (rs := [.tmp 6]) [.bool false] (.bool false) ⟨(by kernel_rfl), trivial⟩ (k := ?_)
          exfalso; first | omega | (simp at *; omega)
      · have ph29 := of_decide_eq_false h29
        refine WL.rw (t := 34) (v := .bool false) (congrArg Value.bool h29) (k := ?_)
        refine WL.skip (d := 35) (k := ?_)
        refine WL.skip (d := 36) (k := ?_)
        refine WL.skip (d := 37) (k := ?_)
        refine WL.skip (d := 38) (k := ?_)
        refine WL.skip (d := 39) (k := ?_)
        refine WL.op (d := 40) (.bool false) (k := ?_)
        refine WL.op (d := 12) (.bool false) (k := ?_)
        refine WL.nil ?_
        refine WX.seqN ?_
        refine WC.seq ?_
        refine WC.region ?_
        refine WL.callG (d := 41) (f := 27) (args := #[]) (l07awake_c w26) (k := fun e_ w43 h_ => ⟨.bool true, h_.1, ?_⟩)
        have k44 := h_.2; clear h_
        replace hd11 := hd11.adds k44
        replace hb22 := k44.heap hb22 id
        replace K := K.trans (k44.any _)
        refine WL.op (d := 42) (.bool true) (k := ?_)
        refine WL.op (d := 43) (.pointer (some ⟨b20, 0, none⟩)) (k := ?_)
        refine WL.op (d := 44) (.bool true) (k := ?_)
        refine WL.op (d := 45) (.bool false) (k := ?_)
        refine WL.op (d := 46) (.bool false) (k := ?_)
        refine WL.op (d := 47) (.bool false) (k := ?_)
        refine WL.op (d := 48) (.bool false) (k := ?_)
        refine WL.skip (d := 49) (k := ?_)
        refine WL.skip (d := 50) (k := ?_)
        refine WL.skip (d := 51) (k := ?_)
        refine WL.op (d := 52) (.bool false) (k := ?_)
        refine WL.op (d := 53) (.bool false) (k := ?_)
        refine WL.skip (d := 54) (k := ?_)
        refine WL.skip (d := 55) (k := ?_)
        refine WL.op (d := 56) (.bool false) (k := ?_)
        refine WL.op (d := 57) (.bool false) (k := ?_)
        refine WL.skip (d := 58) (k := ?_)
        refine WL.skip (d := 59) (k := ?_)
        refine WL.skip (d := 60) (k := ?_)
        refine WL.op (d := 61) (.bool false) (k := ?_)
        refine WL.op (d := 62) (.bool false) (k := ?_)
        refine WL.skip (d := 63) (k := ?_)
        refine WL.skip (d := 64) (k := ?_)
        refine WL.skip (d := 65) (k := ?_)
        refine WL.op (d := 66) (.bool false) (k := ?_)
        refine WL.op (d := 67) (.bool false) (k := ?_)
        refine WL.skip (d := 68) (k := ?_)
        refine WL.skip (d := 69) (k := ?_)
        refine WL.skip (d := 70) (k := ?_)
        refine WL.op (d := 71) (.bool false) (k := ?_)
        refine WL.op (d := 72) (.bool false) (k := ?_)
        refine WL.skip (d := 73) (k := ?_)
        refine WL.skip (d := 74) (k := ?_)
        refine WL.skip (d := 75) (k := ?_)
        refine WL.op (d := 76) (.bool false) (k := ?_)
        refine WL.op (d := 77) (.bool false) (k := ?_)
        refine WL.skip (d := 78) (k := ?_)
        refine WL.skip (d := 79) (k := ?_)
        refine WL.op (d := 80) (.bool false) (k := ?_)
        refine WL.op (d := 6) (.bool false) (k := ?_)
        refine WL.nil ?_
        refine WX.seqN ?_
        refine WC.ret ?_
        refine WX.ret (rs := [.tmp 6]) [.bool false] (.bool false) ⟨(by kernel_rfl), trivial⟩ (k := ?_)
        exfalso; first | omega | (simp at *; omega)
    · have ph28 := of_decide_eq_false h28
      refine WL.rw (t := 30) (v := .bool false) (congrArg Value.bool h28) (k := ?_)
      refine WL.skip (d := 31) (k := ?_)
      refine WL.skip (d := 32) (k := ?_)
      refine WL.op (d := 33) (.bool false) (k := ?_)
      refine WL.op (d := 34) (.bool false) (k := ?_)
      refine WL.skip (d := 35) (k := ?_)
      refine WL.skip (d := 36) (k := ?_)
      refine WL.skip (d := 37) (k := ?_)
      refine WL.skip (d := 38) (k := ?_)
      refine WL.skip (d := 39) (k := ?_)
      refine WL.op (d := 40) (.bool false) (k := ?_)
      refine WL.op (d := 12) (.bool false) (k := ?_)
      refine WL.nil ?_
      refine WX.seqN ?_
      refine WC.seq ?_
      refine WC.region ?_
      refine WL.callG (d := 41) (f := 27) (args := #[]) (l07awake_c w26) (k := fun e_ w45 h_ => ⟨.bool true, h_.1, ?_⟩)
      have k46 := h_.2; clear h_
      replace hd11 := hd11.adds k46
      replace hb22 := k46.heap hb22 id
      replace K := K.trans (k46.any _)
      refine WL.op (d := 42) (.bool true) (k := ?_)
      refine WL.op (d := 43) (.pointer (some ⟨b20, 0, none⟩)) (k := ?_)
      refine WL.op (d := 44) (.bool true) (k := ?_)
      refine WL.op (d := 45) (.bool false) (k := ?_)
      refine WL.op (d := 46) (.bool false) (k := ?_)
      refine WL.op (d := 47) (.bool false) (k := ?_)
      refine WL.op (d := 48) (.bool false) (k := ?_)
      refine WL.skip (d := 49) (k := ?_)
      refine WL.skip (d := 50) (k := ?_)
      refine WL.skip (d := 51) (k := ?_)
      refine WL.op (d := 52) (.bool false) (k := ?_)
      refine WL.op (d := 53) (.bool false) (k := ?_)
      refine WL.skip (d := 54) (k := ?_)
      refine WL.skip (d := 55) (k := ?_)
      refine WL.op (d := 56) (.bool false) (k := ?_)
      refine WL.op (d := 57) (.bool false) (k := ?_)
      refine WL.skip (d := 58) (k := ?_)
      refine WL.skip (d := 59) (k := ?_)
      refine WL.skip (d := 60) (k := ?_)
      refine WL.op (d := 61) (.bool false) (k := ?_)
      refine WL.op (d := 62) (.bool false) (k := ?_)
      refine WL.skip (d := 63) (k := ?_)
      refine WL.skip (d := 64) (k := ?_)
      refine WL.skip (d := 65) (k := ?_)
      refine WL.op (d := 66) (.bool false) (k := ?_)
      refine WL.op (d := 67) (.bool false) (k := ?_)
      refine WL.skip (d := 68) (k := ?_)
      refine WL.skip (d := 69) (k := ?_)
      refine WL.skip (d := 70) (k := ?_)
      refine WL.op (d := 71) (.bool false) (k := ?_)
      refine WL.op (d := 72) (.bool false) (k := ?_)
      refine WL.skip (d := 73) (k := ?_)
      refine WL.skip (d := 74) (k := ?_)
      refine WL.skip (d := 75) (k := ?_)
      refine WL.op (d := 76) (.bool false) (k := ?_)
      refine WL.op (d := 77) (.bool false) (k := ?_)
      refine WL.skip (d := 78) (k := ?_)
      refine WL.skip (d := 79) (k := ?_)
      refine WL.op (d := 80) (.bool false) (k := ?_)
      refine WL.op (d := 6) (.bool false) (k := ?_)
      refine WL.nil ?_
      refine WX.seqN ?_
      refine WC.ret ?_
      refine WX.ret (rs := [.tmp 6]) [.bool false] (.bool false) ⟨(by kernel_rfl), trivial⟩ (k := ?_)
      exfalso; first | omega | (simp at *; omega)
  · have ph18 := of_decide_eq_false h18
    refine WL.callG (d := 22) (f := 29) (args := #[.pointer (some ⟨b8, 0, none⟩), .int .i64 at_, .int .i64 k]) (wlNew_no (at_ := at_) (n := k) hd11 (by omega) (by omega) ph18) (k := fun e_ w47 h_ => ⟨.pointer none, h_.1, ?_⟩)
    have k48 := h_.2; clear h_
    replace hd11 := hd11.adds k48
    replace K := K.trans (k48.any _)
    refine WL.op (d := 8) (.pointer none) (k := ?_)
    refine WL.nil ?_
    refine WX.seqN ?_
    refine WC.seq ?_
    refine WC.region ?_
    refine WL.op (d := 9) (.pointer none) (k := ?_)
    refine WL.nil ?_
    refine WX.seqN ?_
    refine WC.seq ?_
    refine WC.region ?_
    refine WL.op (d := 24) (.pointer none) (k := ?_)
    refine WL.callG (d := 25) (f := 33) (args := #[.pointer none, .int .u64 1]) (wlScan_nil (e := 1) w47) (k := fun e_ w49 h_ => ⟨.tuple #[.slice none 0 0, .int .i64 1], h_.1, ?_⟩)
    have k50 := h_.2; clear h_
    replace hd11 := hd11.adds k50
    replace K := K.trans (k50.any _)
    refine WL.op (d := 23) (.tuple #[.slice none 0 0, .int .i64 1]) (k := ?_)
    refine WL.op (d := 26) (.slice none 0 0) (k := ?_)
    refine WL.op (d := 27) (.int .i64 1) (k := ?_)
    refine WL.op (d := 10) (.slice none 0 0) (k := ?_)
    refine WL.op (d := 11) (.int .i64 1) (k := ?_)
    refine WL.nil ?_
    refine WX.seqN ?_
    refine WC.seq ?_
    refine WC.region ?_
    refine WL.op (d := 28) (.int .i64 at_) (k := ?_)
    refine WL.op (d := 29) (.bool (decide (at_ ≥ 0))) (k := ?_)
    refine WL.op (d := 30) (.bool (decide (at_ ≥ 0))) (k := ?_)
    refine bsplit (decide (at_ ≥ 0)) (fun h51 => ?_) (fun h51 => ?_)
    · have ph51 := of_decide_eq_true h51
      refine WL.rw (t := 30) (v := .bool true) (congrArg Value.bool h51) (k := ?_)
      refine WL.op (d := 31) (.int .i64 k) (k := ?_)
      refine WL.op (d := 32) (.bool (decide (k ≥ 1))) (k := ?_)
      refine WL.op (d := 33) (.bool (decide (k ≥ 1))) (k := ?_)
      refine WL.op (d := 34) (.bool (decide (k ≥ 1))) (k := ?_)
      refine bsplit (decide (k ≥ 1)) (fun h52 => ?_) (fun h52 => ?_)
      · have ph52 := of_decide_eq_true h52
        refine WL.rw (t := 34) (v := .bool true) (congrArg Value.bool h52) (k := ?_)
        refine WL.op (d := 35) (.int .i64 at_) (k := ?_)
        refine WL.op (d := 36) (.int .i64 (m : Int)) (k := ?_)
        refine WL.op (d := 37) (.int .i64 k) (k := ?_)
        refine WL.opE (d := 38) (.int .i64 (IntKind.i64.wrap ((m : Int) - k))) (v := .int .i64 ((m : Int) - k)) (congrArg (Value.int .i64) (IntWalk.i64_in _ (by omega))) (k := ?_)
        refine WL.op (d := 39) (.bool (decide (at_ ≤ ((m : Int) - k)))) (k := ?_)
        refine WL.op (d := 40) (.bool (decide (at_ ≤ ((m : Int) - k)))) (k := ?_)
        refine WL.op (d := 12) (.bool (decide (at_ ≤ ((m : Int) - k)))) (k := ?_)
        refine WL.nil ?_
        refine WX.seqN ?_
        refine WC.seq ?_
        refine WC.region ?_
        refine WL.callG (d := 41) (f := 27) (args := #[]) (l07awake_c w49) (k := fun e_ w53 h_ => ⟨.bool true, h_.1, ?_⟩)
        have k54 := h_.2; clear h_
        replace hd11 := hd11.adds k54
        replace K := K.trans (k54.any _)
        refine WL.op (d := 42) (.bool true) (k := ?_)
        refine WL.op (d := 43) (.pointer none) (k := ?_)
        refine WL.op (d := 44) (.bool false) (k := ?_)
        refine WL.op (d := 45) (.bool (decide (at_ ≤ ((m : Int) - k)))) (k := ?_)
        refine WL.op (d := 46) (.bool (false == (decide (at_ ≤ ((m : Int) - k))))) (k := ?_)
        refine WL.op (d := 47) (.bool (false == (decide (at_ ≤ ((m : Int) - k))))) (k := ?_)
        refine WL.op (d := 48) (.bool (false == (decide (at_ ≤ ((m : Int) - k))))) (k := ?_)
        refine bsplit (false == (decide (at_ ≤ ((m : Int) - k)))) (fun h55 => ?_) (fun h55 => ?_)
        · have ph55 := eq_of_beq h55
          refine WL.rw (t := 48) (v := .bool true) (congrArg Value.bool h55) (k := ?_)
          refine WL.op (d := 49) (.slice none 0 0) (k := ?_)
          refine WL.op (d := 50) (.int .i64 0) (k := ?_)
          refine WL.op (d := 51) (.bool true) (k := ?_)
          refine WL.op (d := 52) (.bool true) (k := ?_)
          refine WL.op (d := 53) (.bool true) (k := ?_)
          refine WL.op (d := 54) (.int .i64 1) (k := ?_)
          refine WL.op (d := 55) (.bool true) (k := ?_)
          refine WL.op (d := 56) (.bool true) (k := ?_)
          refine WL.op (d := 57) (.bool true) (k := ?_)
          refine WL.op (d := 58) (.pointer none) (k := ?_)
          refine WL.callG (d := 59) (f := 30) (args := #[.pointer none, .int .u64 1]) (wlStart_nil (e := 1) w53) (k := fun e_ w56 h_ => ⟨.int .i64 1, h_.1, ?_⟩)
          have k57 := h_.2; clear h_
          replace hd11 := hd11.adds k57
          replace K := K.trans (k57.any _)
          refine WL.op (d := 60) (.bool true) (k := ?_)
          refine WL.op (d := 61) (.bool true) (k := ?_)
          refine WL.op (d := 62) (.bool true) (k := ?_)
          refine WL.op (d := 63) (.pointer none) (k := ?_)
          refine WL.callG (d := 64) (f := 32) (args := #[.pointer none, .string ⟨#[]⟩]) (wlAppend_nil (l := []) w56) (k := fun e_ w58 h_ => ⟨.int .i64 1, h_.1, ?_⟩)
          have k59 := h_.2; clear h_
          replace hd11 := hd11.adds k59
          replace K := K.trans (k59.any _)
          refine WL.op (d := 65) (.bool true) (k := ?_)
          refine WL.op (d := 66) (.bool true) (k := ?_)
          refine WL.op (d := 67) (.bool true) (k := ?_)
          refine WL.op (d := 68) (.pointer none) (k := ?_)
          refine WL.callG (d := 69) (f := 35) (args := #[.pointer none]) (wlLeft_nil w58) (k := fun e_ w60 h_ => ⟨.int .i64 0, h_.1, ?_⟩)
          have k61 := h_.2; clear h_
          replace hd11 := hd11.adds k61
          replace K := K.trans (k61.any _)
          refine WL.op (d := 70) (.bool true) (k := ?_)
          refine WL.op (d := 71) (.bool true) (k := ?_)
          refine WL.op (d := 72) (.bool true) (k := ?_)
          refine WL.op (d := 73) (.pointer none) (k := ?_)
          refine WL.callG (d := 74) (f := 34) (args := #[.pointer none]) (wlLen_nil w60) (k := fun e_ w62 h_ => ⟨.int .i64 0, h_.1, ?_⟩)
          have k63 := h_.2; clear h_
          replace hd11 := hd11.adds k63
          replace K := K.trans (k63.any _)
          refine WL.op (d := 75) (.bool true) (k := ?_)
          refine WL.op (d := 76) (.bool true) (k := ?_)
          refine WL.op (d := 77) (.bool true) (k := ?_)
          refine WL.callG (d := 78) (f := 29) (args := #[.pointer none, .int .i64 0, .int .i64 1]) (wlNew_nil (at_ := 0) (n := 1) (by omega) (by omega) w62) (k := fun e_ w64 h_ => ⟨.pointer none, h_.1, ?_⟩)
          have k65 := h_.2; clear h_
          replace hd11 := hd11.adds k65
          replace K := K.trans (k65.any _)
          refine WL.op (d := 79) (.bool true) (k := ?_)
          refine WL.op (d := 80) (.bool true) (k := ?_)
          refine WL.op (d := 6) (.bool true) (k := ?_)
          refine WL.nil ?_
          refine WX.seqN ?_
          refine WC.ret ?_
          refine WX.ret (rs := [.tmp 6]) [.bool true] (.bool true) ⟨(by kernel_rfl), trivial⟩ (k := ?_)
          exact ⟨rfl, K⟩
        · have ph55 := ne_of_beq_false h55
          refine WL.rw (t := 48) (v := .bool false) (congrArg Value.bool h55) (k := ?_)
          refine WL.skip (d := 49) (k := ?_)
          refine WL.skip (d := 50) (k := ?_)
          refine WL.skip (d := 51) (k := ?_)
          refine WL.op (d := 52) (.bool false) (k := ?_)
          refine WL.op (d := 53) (.bool false) (k := ?_)
          refine WL.skip (d := 54) (k := ?_)
          refine WL.skip (d := 55) (k := ?_)
          refine WL.op (d := 56) (.bool false) (k := ?_)
          refine WL.op (d := 57) (.bool false) (k := ?_)
          refine WL.skip (d := 58) (k := ?_)
          refine WL.skip (d := 59) (k := ?_)
          refine WL.skip (d := 60) (k := ?_)
          refine WL.op (d := 61) (.bool false) (k := ?_)
          refine WL.op (d := 62) (.bool false) (k := ?_)
          refine WL.skip (d := 63) (k := ?_)
          refine WL.skip (d := 64) (k := ?_)
          refine WL.skip (d := 65) (k := ?_)
          refine WL.op (d := 66) (.bool false) (k := ?_)
          refine WL.op (d := 67) (.bool false) (k := ?_)
          refine WL.skip (d := 68) (k := ?_)
          refine WL.skip (d := 69) (k := ?_)
          refine WL.skip (d := 70) (k := ?_)
          refine WL.op (d := 71) (.bool false) (k := ?_)
          refine WL.op (d := 72) (.bool false) (k := ?_)
          refine WL.skip (d := 73) (k := ?_)
          refine WL.skip (d := 74) (k := ?_)
          refine WL.skip (d := 75) (k := ?_)
          refine WL.op (d := 76) (.bool false) (k := ?_)
          refine WL.op (d := 77) (.bool false) (k := ?_)
          refine WL.skip (d := 78) (k := ?_)
          refine WL.skip (d := 79) (k := ?_)
          refine WL.op (d := 80) (.bool false) (k := ?_)
          refine WL.op (d := 6) (.bool false) (k := ?_)
          refine WL.nil ?_
          refine WX.seqN ?_
          refine WC.ret ?_
          refine WX.ret (rs := [.tmp 6]) [.bool false] (.bool false) ⟨(by kernel_rfl), trivial⟩ (k := ?_)
          exfalso; first | omega | (simp at *; omega)
      · have ph52 := of_decide_eq_false h52
        refine WL.rw (t := 34) (v := .bool false) (congrArg Value.bool h52) (k := ?_)
        refine WL.skip (d := 35) (k := ?_)
        refine WL.skip (d := 36) (k := ?_)
        refine WL.skip (d := 37) (k := ?_)
        refine WL.skip (d := 38) (k := ?_)
        refine WL.skip (d := 39) (k := ?_)
        refine WL.op (d := 40) (.bool false) (k := ?_)
        refine WL.op (d := 12) (.bool false) (k := ?_)
        refine WL.nil ?_
        refine WX.seqN ?_
        refine WC.seq ?_
        refine WC.region ?_
        refine WL.callG (d := 41) (f := 27) (args := #[]) (l07awake_c w49) (k := fun e_ w66 h_ => ⟨.bool true, h_.1, ?_⟩)
        have k67 := h_.2; clear h_
        replace hd11 := hd11.adds k67
        replace K := K.trans (k67.any _)
        refine WL.op (d := 42) (.bool true) (k := ?_)
        refine WL.op (d := 43) (.pointer none) (k := ?_)
        refine WL.op (d := 44) (.bool false) (k := ?_)
        refine WL.op (d := 45) (.bool false) (k := ?_)
        refine WL.op (d := 46) (.bool true) (k := ?_)
        refine WL.op (d := 47) (.bool true) (k := ?_)
        refine WL.op (d := 48) (.bool true) (k := ?_)
        refine WL.op (d := 49) (.slice none 0 0) (k := ?_)
        refine WL.op (d := 50) (.int .i64 0) (k := ?_)
        refine WL.op (d := 51) (.bool true) (k := ?_)
        refine WL.op (d := 52) (.bool true) (k := ?_)
        refine WL.op (d := 53) (.bool true) (k := ?_)
        refine WL.op (d := 54) (.int .i64 1) (k := ?_)
        refine WL.op (d := 55) (.bool true) (k := ?_)
        refine WL.op (d := 56) (.bool true) (k := ?_)
        refine WL.op (d := 57) (.bool true) (k := ?_)
        refine WL.op (d := 58) (.pointer none) (k := ?_)
        refine WL.callG (d := 59) (f := 30) (args := #[.pointer none, .int .u64 1]) (wlStart_nil (e := 1) w66) (k := fun e_ w68 h_ => ⟨.int .i64 1, h_.1, ?_⟩)
        have k69 := h_.2; clear h_
        replace hd11 := hd11.adds k69
        replace K := K.trans (k69.any _)
        refine WL.op (d := 60) (.bool true) (k := ?_)
        refine WL.op (d := 61) (.bool true) (k := ?_)
        refine WL.op (d := 62) (.bool true) (k := ?_)
        refine WL.op (d := 63) (.pointer none) (k := ?_)
        refine WL.callG (d := 64) (f := 32) (args := #[.pointer none, .string ⟨#[]⟩]) (wlAppend_nil (l := []) w68) (k := fun e_ w70 h_ => ⟨.int .i64 1, h_.1, ?_⟩)
        have k71 := h_.2; clear h_
        replace hd11 := hd11.adds k71
        replace K := K.trans (k71.any _)
        refine WL.op (d := 65) (.bool true) (k := ?_)
        refine WL.op (d := 66) (.bool true) (k := ?_)
        refine WL.op (d := 67) (.bool true) (k := ?_)
        refine WL.op (d := 68) (.pointer none) (k := ?_)
        refine WL.callG (d := 69) (f := 35) (args := #[.pointer none]) (wlLeft_nil w70) (k := fun e_ w72 h_ => ⟨.int .i64 0, h_.1, ?_⟩)
        have k73 := h_.2; clear h_
        replace hd11 := hd11.adds k73
        replace K := K.trans (k73.any _)
        refine WL.op (d := 70) (.bool true) (k := ?_)
        refine WL.op (d := 71) (.bool true) (k := ?_)
        refine WL.op (d := 72) (.bool true) (k := ?_)
        refine WL.op (d := 73) (.pointer none) (k := ?_)
        refine WL.callG (d := 74) (f := 34) (args := #[.pointer none]) (wlLen_nil w72) (k := fun e_ w74 h_ => ⟨.int .i64 0, h_.1, ?_⟩)
        have k75 := h_.2; clear h_
        replace hd11 := hd11.adds k75
        replace K := K.trans (k75.any _)
        refine WL.op (d := 75) (.bool true) (k := ?_)
        refine WL.op (d := 76) (.bool true) (k := ?_)
        refine WL.op (d := 77) (.bool true) (k := ?_)
        refine WL.callG (d := 78) (f := 29) (args := #[.pointer none, .int .i64 0, .int .i64 1]) (wlNew_nil (at_ := 0) (n := 1) (by omega) (by omega) w74) (k := fun e_ w76 h_ => ⟨.pointer none, h_.1, ?_⟩)
        have k77 := h_.2; clear h_
        replace hd11 := hd11.adds k77
        replace K := K.trans (k77.any _)
        refine WL.op (d := 79) (.bool true) (k := ?_)
        refine WL.op (d := 80) (.bool true) (k := ?_)
        refine WL.op (d := 6) (.bool true) (k := ?_)
        refine WL.nil ?_
        refine WX.seqN ?_
        refine WC.ret ?_
        refine WX.ret (rs := [.tmp 6]) [.bool true] (.bool true) ⟨(by kernel_rfl), trivial⟩ (k := ?_)
        exact ⟨rfl, K⟩
    · have ph51 := of_decide_eq_false h51
      refine WL.rw (t := 30) (v := .bool false) (congrArg Value.bool h51) (k := ?_)
      refine WL.skip (d := 31) (k := ?_)
      refine WL.skip (d := 32) (k := ?_)
      refine WL.op (d := 33) (.bool false) (k := ?_)
      refine WL.op (d := 34) (.bool false) (k := ?_)
      refine WL.skip (d := 35) (k := ?_)
      refine WL.skip (d := 36) (k := ?_)
      refine WL.skip (d := 37) (k := ?_)
      refine WL.skip (d := 38) (k := ?_)
      refine WL.skip (d := 39) (k := ?_)
      refine WL.op (d := 40) (.bool false) (k := ?_)
      refine WL.op (d := 12) (.bool false) (k := ?_)
      refine WL.nil ?_
      refine WX.seqN ?_
      refine WC.seq ?_
      refine WC.region ?_
      refine WL.callG (d := 41) (f := 27) (args := #[]) (l07awake_c w49) (k := fun e_ w78 h_ => ⟨.bool true, h_.1, ?_⟩)
      have k79 := h_.2; clear h_
      replace hd11 := hd11.adds k79
      replace K := K.trans (k79.any _)
      refine WL.op (d := 42) (.bool true) (k := ?_)
      refine WL.op (d := 43) (.pointer none) (k := ?_)
      refine WL.op (d := 44) (.bool false) (k := ?_)
      refine WL.op (d := 45) (.bool false) (k := ?_)
      refine WL.op (d := 46) (.bool true) (k := ?_)
      refine WL.op (d := 47) (.bool true) (k := ?_)
      refine WL.op (d := 48) (.bool true) (k := ?_)
      refine WL.op (d := 49) (.slice none 0 0) (k := ?_)
      refine WL.op (d := 50) (.int .i64 0) (k := ?_)
      refine WL.op (d := 51) (.bool true) (k := ?_)
      refine WL.op (d := 52) (.bool true) (k := ?_)
      refine WL.op (d := 53) (.bool true) (k := ?_)
      refine WL.op (d := 54) (.int .i64 1) (k := ?_)
      refine WL.op (d := 55) (.bool true) (k := ?_)
      refine WL.op (d := 56) (.bool true) (k := ?_)
      refine WL.op (d := 57) (.bool true) (k := ?_)
      refine WL.op (d := 58) (.pointer none) (k := ?_)
      refine WL.callG (d := 59) (f := 30) (args := #[.pointer none, .int .u64 1]) (wlStart_nil (e := 1) w78) (k := fun e_ w80 h_ => ⟨.int .i64 1, h_.1, ?_⟩)
      have k81 := h_.2; clear h_
      replace hd11 := hd11.adds k81
      replace K := K.trans (k81.any _)
      refine WL.op (d := 60) (.bool true) (k := ?_)
      refine WL.op (d := 61) (.bool true) (k := ?_)
      refine WL.op (d := 62) (.bool true) (k := ?_)
      refine WL.op (d := 63) (.pointer none) (k := ?_)
      refine WL.callG (d := 64) (f := 32) (args := #[.pointer none, .string ⟨#[]⟩]) (wlAppend_nil (l := []) w80) (k := fun e_ w82 h_ => ⟨.int .i64 1, h_.1, ?_⟩)
      have k83 := h_.2; clear h_
      replace hd11 := hd11.adds k83
      replace K := K.trans (k83.any _)
      refine WL.op (d := 65) (.bool true) (k := ?_)
      refine WL.op (d := 66) (.bool true) (k := ?_)
      refine WL.op (d := 67) (.bool true) (k := ?_)
      refine WL.op (d := 68) (.pointer none) (k := ?_)
      refine WL.callG (d := 69) (f := 35) (args := #[.pointer none]) (wlLeft_nil w82) (k := fun e_ w84 h_ => ⟨.int .i64 0, h_.1, ?_⟩)
      have k85 := h_.2; clear h_
      replace hd11 := hd11.adds k85
      replace K := K.trans (k85.any _)
      refine WL.op (d := 70) (.bool true) (k := ?_)
      refine WL.op (d := 71) (.bool true) (k := ?_)
      refine WL.op (d := 72) (.bool true) (k := ?_)
      refine WL.op (d := 73) (.pointer none) (k := ?_)
      refine WL.callG (d := 74) (f := 34) (args := #[.pointer none]) (wlLen_nil w84) (k := fun e_ w86 h_ => ⟨.int .i64 0, h_.1, ?_⟩)
      have k87 := h_.2; clear h_
      replace hd11 := hd11.adds k87
      replace K := K.trans (k87.any _)
      refine WL.op (d := 75) (.bool true) (k := ?_)
      refine WL.op (d := 76) (.bool true) (k := ?_)
      refine WL.op (d := 77) (.bool true) (k := ?_)
      refine WL.callG (d := 78) (f := 29) (args := #[.pointer none, .int .i64 0, .int .i64 1]) (wlNew_nil (at_ := 0) (n := 1) (by omega) (by omega) w86) (k := fun e_ w88 h_ => ⟨.pointer none, h_.1, ?_⟩)
      have k89 := h_.2; clear h_
      replace hd11 := hd11.adds k89
      replace K := K.trans (k89.any _)
      refine WL.op (d := 79) (.bool true) (k := ?_)
      refine WL.op (d := 80) (.bool true) (k := ?_)
      refine WL.op (d := 6) (.bool true) (k := ?_)
      refine WL.nil ?_
      refine WX.seqN ?_
      refine WC.ret ?_
      refine WX.ret (rs := [.tmp 6]) [.bool true] (.bool true) ⟨(by kernel_rfl), trivial⟩ (k := ?_)
      exact ⟨rfl, K⟩

theorem ite_ex (c : Prop) [Decidable c] (x y : Int) : ∃ q : Int, (if c then x else y) = q ∧ (c ∧ q = x ∨ ¬ c ∧ q = y) := by
  by_cases h : c
  · exact ⟨x, if_pos h, .inl ⟨h, rfl⟩⟩
  · exact ⟨y, if_neg h, .inr ⟨h, rfl⟩⟩
theorem and7_rng (x : Int) : 0 ≤ bits .and .i64 x 7 ∧ bits .and .i64 x 7 ≤ 7 := by
  have h : (BitVec.ofInt 64 x &&& BitVec.ofInt 64 7).toNat = (BitVec.ofInt 64 x).toNat % 8 := by rw [BitVec.toNat_and, show (BitVec.ofInt 64 7).toNat = 2 ^ 3 - 1 from rfl, Nat.and_two_pow_sub_one_eq_mod]
  have e : bits .and .i64 x 7 = IntKind.wrap .i64 ((BitVec.ofInt 64 x &&& BitVec.ofInt 64 7).toNat : Int) := rfl
  rw [e, h]
  have hl := Nat.mod_lt (BitVec.ofInt 64 x).toNat (show 0 < 8 by decide)
  rw [IntWalk.i64_in _ (by omega)]
  omega

set_option maxRecDepth 100000 in
set_option maxHeartbeats 4000000 in
theorem lWalFull_c (x y : Int) (w : World) : Calls Tryd.prog 9 #[.int .i64 x, .int .i64 y] w fun e w' => e = .returned (.bool true) ∧ Adds w w' := by
  have K : Keeps (fun _ => False) w w := Keeps.refl _ w
  refine Calls.start Tryd.func9 rfl (by kernel_rfl) ?_
  refine WC.seq ?_
  refine WC.region ?_
  refine WL.op (d := 4) (.bool false) (k := ?_)
  refine WL.nil ?_
  refine WX.seqN ?_
  refine WC.seq ?_
  refine WC.region ?_
  refine WL.callG (d := 11) (f := 27) (args := #[]) (l07awake_c w) (k := fun e_ w1 h_ => ⟨.bool true, h_.1, ?_⟩)
  have k2 := h_.2; clear h_
  replace K := K.trans (k2.any _)
  refine WL.op (d := 5) (.bool true) (k := ?_)
  refine WL.nil ?_
  refine WX.seqN ?_
  refine WC.seq ?_
  refine WC.region ?_
  refine WL.op (d := 12) (.int .i64 x) (k := ?_)
  refine WL.bin (d := 13) (v := .int .i64 (bits BinOp.and IntKind.i64 x 7)) (bits_run (by decide)) (k := ?_)
  obtain ⟨an_, han_⟩ : ∃ q : Int, bits BinOp.and IntKind.i64 x 7 = q := ⟨_, rfl⟩
  have ar_ := and7_rng x
  rw [han_] at ar_
  refine WL.rw (t := 13) (v := .int .i64 an_) (congrArg (Value.int .i64) han_) (k := ?_)
  refine WL.opE (d := 14) (.int .i64 (IntKind.i64.wrap (1 + an_))) (v := .int .i64 (1 + an_)) (congrArg (Value.int .i64) (IntWalk.i64_in _ (by omega))) (k := ?_)
  refine WL.op (d := 6) (.int .i64 (1 + an_)) (k := ?_)
  refine WL.nil ?_
  refine WX.seqN ?_
  refine WC.seq ?_
  obtain ⟨m, hm⟩ : ∃ q : Nat, 1 + an_ = (q : Int) := ⟨Int.toNat (1 + an_), by omega⟩
  refine WC.rw (t := 6) (v := .int .i64 (m : Int)) (congrArg (Value.int .i64) hm) (k := ?_)
  refine WC.region ?_
  refine WL.op (d := 15) (.int .i64 (m : Int)) (k := ?_)
  refine WL.callG (d := 16) (f := 28) (args := #[.int .i64 (m : Int)]) (dNew_ok (n := m) (by omega) (by omega) w1) (k := fun e_ w3 h_ => ?_)
  obtain ⟨b4, S5, rfl, g6, hd7, ho8, k9⟩ := h_
  refine ⟨_, rfl, ?_⟩
  have lk10 : ∀ k, S5 k → False ∨ w.heap.size ≤ k := fun k h => .inr (Nat.le_trans K.size (ho8 k h))
  have z11 := Nat.le_trans K.size g6
  replace K := K.trans (k9.any _)
  change DiskAt S5 b4 (⟨List.replicate m (List.replicate 64 (0 : UInt8)), [], 0, 0⟩ : GDisk) w3 at hd7
  have ln12 : (List.replicate m (List.replicate 64 (0 : UInt8))).length = m := List.length_replicate
  have ln13 : (GDisk.secs (⟨List.replicate m (List.replicate 64 (0 : UInt8)), [], 0, 0⟩ : GDisk)).length = m := List.length_replicate
  refine WL.op (d := 17) (.int .i64 (m : Int)) (k := ?_)
  refine WL.callG (d := 18) (f := 29) (args := #[.pointer (some ⟨b4, 0, none⟩), .int .i64 0, .int .i64 (m : Int)]) (wlNew_ok (at_ := 0) (n := (m : Int)) hd7 (by omega) (by omega) (by omega)) (k := fun e_ w14 h_ => ?_)
  obtain ⟨b15, rfl, g16, hb17, k18⟩ := h_
  refine ⟨_, rfl, ?_⟩
  have z19 := Nat.le_trans K.size g16
  have n20 : ¬ S5 b15 := fun h => absurd (hd7.lt _ h) (Nat.not_lt.2 g16)
  replace hd7 := hd7.adds k18
  replace K := K.trans (k18.any _)
  refine WL.op (d := 7) (.pointer (some ⟨b15, 0, none⟩)) (k := ?_)
  refine WL.nil ?_
  refine WX.seqN ?_
  refine WC.seq ?_
  refine WC.seq ?_
  refine WC.region ?_
  refine WL.op (d := 19) (.pointer (some ⟨b15, 0, none⟩)) (k := ?_)
  refine WL.op (d := 20) (.bool false) (k := ?_)
  refine WL.op (d := 21) (.bool false) (k := ?_)
  refine WL.op (d := 22) (.pointer (some ⟨b15, 0, none⟩)) (k := ?_)
  refine WL.callG (d := 23) (f := 32) (args := #[.pointer (some ⟨b15, 0, none⟩), .string ⟨#[120]⟩]) (wlAppend_shut (l := [120]) hb17 hd7 n20 (by show List.length [120] ≤ 43; first | omega | (simp; done) | (simp; omega))) (k := fun e_ w21 h_ => ⟨.int .i64 13, h_.1, ?_⟩)
  have k22 := h_.2; clear h_
  replace hd7 := hd7.adds k22
  replace hb17 := k22.heap hb17 id
  replace K := K.trans (k22.any _)
  refine WL.op (d := 24) (.bool false) (k := ?_)
  refine WL.op (d := 25) (.bool false) (k := ?_)
  refine WL.op (d := 26) (.bool false) (k := ?_)
  refine WL.op (d := 27) (.pointer (some ⟨b15, 0, none⟩)) (k := ?_)
  refine WL.callG (d := 28) (f := 30) (args := #[.pointer (some ⟨b15, 0, none⟩), .int .u64 0]) (wlStart_zero (b := b15) (w := w21)) (k := fun e_ w23 h_ => ⟨.int .i64 1, h_.1, ?_⟩)
  have k24 := h_.2; clear h_
  replace hd7 := hd7.adds k24
  replace hb17 := k24.heap hb17 id
  replace K := K.trans (k24.any _)
  refine WL.op (d := 29) (.bool false) (k := ?_)
  refine WL.op (d := 30) (.bool false) (k := ?_)
  refine WL.op (d := 31) (.bool false) (k := ?_)
  refine WL.op (d := 32) (.pointer (some ⟨b15, 0, none⟩)) (k := ?_)
  refine WL.callG (d := 33) (f := 30) (args := #[.pointer (some ⟨b15, 0, none⟩), .int .u64 9]) (wlStart_ok (e := 9) hb17 (by omega)) (k := fun e_ w25 h_ => ?_)
  obtain ⟨rfl, hb26, k27⟩ := h_
  refine ⟨_, rfl, ?_⟩
  replace hd7 := hd7.keeps k27 (fun i hi e => n20 (e ▸ hi))
  replace K := K.trans' k27 (fun i hi e => absurd (e ▸ hi) (Nat.not_lt.2 z19))
  clear hb17
  refine WL.op (d := 34) (.bool false) (k := ?_)
  refine WL.op (d := 35) (.bool false) (k := ?_)
  refine WL.nil ?_
  refine WX.seqN ?_
  refine WC.condF (k := ?_)
  refine WC.skip ?_
  refine WX.seqN ?_
  refine WC.seq ?_
  refine WC.region ?_
  refine WL.op (d := 36) (.int .i64 y) (k := ?_)
  refine WL.bin (d := 37) (v := .int .i64 (Int.tmod y 12)) (rem_run (by omega)) (k := ?_)
  have m28 := tmod_rng y 12 (by omega)
  obtain ⟨r29, e30⟩ : ∃ r : Int, Int.tmod y 12 = r := ⟨_, rfl⟩
  rw [e30] at m28
  refine WL.rw (t := 37) (v := .int .i64 r29) (congrArg (Value.int .i64) e30) (k := ?_)
  refine WL.opE (d := 38) (.int .i64 (IntKind.i64.wrap (r29 + 12))) (v := .int .i64 (r29 + 12)) (congrArg (Value.int .i64) (IntWalk.i64_in _ (by omega))) (k := ?_)
  refine WL.bin (d := 39) (v := .int .i64 (Int.tmod (r29 + 12) 12)) (rem_run (by omega)) (k := ?_)
  have m31 := tmod_rng (r29 + 12) 12 (by omega)
  obtain ⟨r32, e33⟩ : ∃ r : Int, Int.tmod (r29 + 12) 12 = r := ⟨_, rfl⟩
  rw [e33] at m31
  refine WL.rw (t := 39) (v := .int .i64 r32) (congrArg (Value.int .i64) e33) (k := ?_)
  refine WL.op (d := 8) (.int .i64 r32) (k := ?_)
  refine WL.nil ?_
  refine WX.seqN ?_
  refine WC.seq ?_
  refine WC.seq ?_
  refine WC.region ?_
  refine WL.op (d := 9) (.int .i64 0) (k := ?_)
  refine WL.nil ?_
  refine WX.seqN ?_
  refine WC.block ?_
  refine WC.loop (ι := Int × Int × (List (List UInt8)) × (Nat → Prop)) (fun (⟨i, rr, sc, Si⟩ : Int × Int × (List (List UInt8)) × (Nat → Prop)) => [(0, .int .i64 x), (1, .int .i64 y), (11, .bool true), (5, .bool true), (12, .int .i64 x), (13, .int .i64 an_), (14, .int .i64 (1 + an_)), (6, .int .i64 (m : Int)), (15, .int .i64 (m : Int)), (16, .pointer (some ⟨b4, 0, none⟩)), (17, .int .i64 (m : Int)), (18, .pointer (some ⟨b15, 0, none⟩)), (7, .pointer (some ⟨b15, 0, none⟩)), (19, .pointer (some ⟨b15, 0, none⟩)), (20, .bool false), (21, .bool false), (22, .pointer (some ⟨b15, 0, none⟩)), (23, .int .i64 13), (24, .bool false), (25, .bool false), (26, .bool false), (27, .pointer (some ⟨b15, 0, none⟩)), (28, .int .i64 1), (29, .bool false), (30, .bool false), (31, .bool false), (32, .pointer (some ⟨b15, 0, none⟩)), (33, .int .i64 0), (34, .bool false), (35, .bool false), (36, .int .i64 y), (37, .int .i64 r29), (38, .int .i64 (r29 + 12)), (39, .int .i64 r32), (8, .int .i64 r32), (9, .int .i64 i)]) (fun (⟨i, rr, sc, Si⟩ : Int × Int × (List (List UInt8)) × (Nat → Prop)) (w_ : World) => (Keeps (fun _ => False) w w_) ∧ (DiskAt Si b4 (⟨sc, [], 0, 0⟩ : GDisk) w_) ∧ (∀ k, Si k → (fun _ => False) k ∨ w.heap.size ≤ k) ∧ (¬ Si b15) ∧ (w_.heap[b15]? = some (.cells #[.pointer (some ⟨b4, 0, none⟩), .int .i64 0, .int .i64 (m : Int), .iface 97 (.agg #[.int .u64 9, .int .i64 rr])] 95 (0, 0))) ∧ (0 ≤ i) ∧ (0 ≤ rr) ∧ (rr ≤ i) ∧ (rr ≤ (m : Int)) ∧ (rr = i ∨ rr = (m : Int)) ∧ (sc.length = m) ∧ (i ≤ r32)) (fun (⟨i, rr, sc, Si⟩ : Int × Int × (List (List UInt8)) × (Nat → Prop)) => (12 - i).toNat) (0, 0, List.replicate m (List.replicate 64 (0 : UInt8)), S5) ⟨(by kernel_rfl), (by kernel_rfl), (by kernel_rfl), (by kernel_rfl), (by kernel_rfl), (by kernel_rfl), (by kernel_rfl), (by kernel_rfl), (by kernel_rfl), (by kernel_rfl), (by kernel_rfl), (by kernel_rfl), (by kernel_rfl), (by kernel_rfl), (by kernel_rfl), (by kernel_rfl), (by kernel_rfl), (by kernel_rfl), (by kernel_rfl), (by kernel_rfl), (by kernel_rfl), (by kernel_rfl), (by kernel_rfl), (by kernel_rfl), (by kernel_rfl), (by kernel_rfl), (by kernel_rfl), (by kernel_rfl), (by kernel_rfl), (by kernel_rfl), (by kernel_rfl), (by kernel_rfl), (by kernel_rfl), (by kernel_rfl), (by kernel_rfl), (by kernel_rfl), trivial⟩ ⟨K, hd7, lk10, n20, hb26, Int.le_refl 0, Int.le_refl 0, Int.le_refl 0, (by omega), (.inl rfl), List.length_replicate, (by omega)⟩ ?_
  rintro ⟨i, rr, sc, Si⟩ w34 ⟨K, hb35, lk36, n37, hb38, i0, q0, q1, q2, q3, q4, i1⟩
  refine WC.seq ?_
  refine WC.seq ?_
  refine WC.region ?_
  refine WL.op (d := 40) (.int .i64 i) (k := ?_)
  refine WL.op (d := 41) (.int .i64 r32) (k := ?_)
  refine WL.op (d := 42) (.bool (decide (i < r32))) (k := ?_)
  refine WL.nil ?_
  refine WX.seqN ?_
  refine WC.cond (b := decide (i < r32)) (ht := fun h39 => ?_) (hf := fun h39 => ?_)
  · have ph39 := of_decide_eq_true h39
    refine WC.skip ?_
    refine WX.seqN ?_
    refine WC.seq ?_
    refine WC.block ?_
    refine WC.seq ?_
    refine WC.region ?_
    refine WL.op (d := 10) (.int .i64 0) (k := ?_)
    refine WL.nil ?_
    refine WX.seqN ?_
    refine WC.seq ?_
    refine WC.seq ?_
    refine WC.region ?_
    refine WL.op (d := 45) (.int .i64 i) (k := ?_)
    refine WL.op (d := 46) (.int .i64 (m : Int)) (k := ?_)
    refine WL.op (d := 47) (.bool (decide (i ≥ (m : Int)))) (k := ?_)
    refine WL.nil ?_
    refine WX.seqN ?_
    refine WC.cond (b := decide (i ≥ (m : Int))) (ht := fun h40 => ?_) (hf := fun h40 => ?_)
    · have ph40 := of_decide_eq_true h40
      refine WC.region ?_
      refine WL.op (d := 10) (.int .i64 22) (k := ?_)
      refine WL.nil ?_
      refine WX.seqN ?_
      refine WC.seq ?_
      refine WC.region ?_
      refine WL.op (d := 48) (.pointer (some ⟨b15, 0, none⟩)) (k := ?_)
      refine bsplit (decide (rr < (m : Int))) (fun h41 => ?_) (fun h41 => ?_)
      · have ph41 := of_decide_eq_true h41
        refine WL.callG (d := 49) (f := 32) (args := #[.pointer (some ⟨b15, 0, none⟩), .string ⟨#[114]⟩]) (wlAppend_good (l := [114]) (e := 9) (r := rr) hb38 hb35 n37 (by show List.length [114] ≤ 43; first | omega | (simp; done) | (simp; omega)) (by omega) (by omega) (by omega) (by omega) (by omega) (by omega) (by omega)) (k := fun e_ w42 h_ => ?_)
        obtain ⟨S43, rfl, hb44, hd45, lk46, n47, k48⟩ := h_
        refine ⟨_, rfl, ?_⟩
        have lk49 := lk_step lk36 lk46 K
        replace K := K.trans' k48 (fun i hi e => e.elim (fun e => absurd (e ▸ hi) (Nat.not_lt.2 z19)) (fun e => (lk36 i e).elim (fun h => h.elim) (fun h => absurd hi (Nat.not_lt.2 h))))
        clear hb38
        clear hb35
        change DiskAt S43 b4 (⟨List.set sc (0 + rr).toNat (makeS [114] 9 rr.toNat), [], 0, 0⟩ : GDisk) w42 at hd45
        have ln50 : (List.set sc (0 + rr).toNat (makeS [114] 9 rr.toNat)).length = List.length sc := List.length_set ..
        refine WL.op (d := 50) (.int .i64 22) (k := ?_)
        refine WL.op (d := 51) (.bool true) (k := ?_)
        refine WL.op (d := 52) (.bool true) (k := ?_)
        refine WL.skip (d := 53) (k := ?_)
        refine WL.skip (d := 54) (k := ?_)
        refine WL.skip (d := 55) (k := ?_)
        refine WL.skip (d := 56) (k := ?_)
        refine WL.skip (d := 57) (k := ?_)
        refine WL.skip (d := 58) (k := ?_)
        refine WL.skip (d := 59) (k := ?_)
        refine WL.op (d := 60) (.bool true) (k := ?_)
        refine WL.op (d := 61) (.bool true) (k := ?_)
        refine WL.skip (d := 62) (k := ?_)
        refine WL.skip (d := 63) (k := ?_)
        refine WL.skip (d := 64) (k := ?_)
        refine WL.skip (d := 65) (k := ?_)
        refine WL.skip (d := 66) (k := ?_)
        refine WL.skip (d := 67) (k := ?_)
        refine WL.skip (d := 68) (k := ?_)
        refine WL.skip (d := 69) (k := ?_)
        refine WL.skip (d := 70) (k := ?_)
        refine WL.op (d := 71) (.bool true) (k := ?_)
        refine WL.nil ?_
        refine WX.seqN ?_
        refine WC.condT (k := ?_)
        refine WC.seq ?_
        refine WC.region ?_
        refine WL.op (d := 4) (.bool false) (k := ?_)
        refine WL.nil ?_
        refine WX.seqN ?_
        refine WC.ret ?_
        refine WX.blockR ?_
        refine WX.seqR ?_
        refine WX.seqR ?_
        refine WX.blockR ?_
        refine WX.seqR ?_
        refine WX.ret (rs := [.tmp 4]) [.bool false] (.bool false) ⟨(by kernel_rfl), trivial⟩ (k := ?_)
        exfalso; omega
      · have ph41 := of_decide_eq_false h41
        refine WL.callG (d := 49) (f := 32) (args := #[.pointer (some ⟨b15, 0, none⟩), .string ⟨#[114]⟩]) (wlAppend_full (l := [114]) hb38 hb35 n37 (by show List.length [114] ≤ 43; first | omega | (simp; done) | (simp; omega)) (by omega)) (k := fun e_ w51 h_ => ⟨.int .i64 22, h_.1, ?_⟩)
        have k52 := h_.2; clear h_
        replace hb35 := hb35.adds k52
        replace hb38 := k52.heap hb38 id
        replace K := K.trans (k52.any _)
        refine WL.op (d := 50) (.int .i64 22) (k := ?_)
        refine WL.op (d := 51) (.bool false) (k := ?_)
        refine WL.op (d := 52) (.bool false) (k := ?_)
        refine WL.op (d := 53) (.pointer (some ⟨b15, 0, none⟩)) (k := ?_)
        refine WL.callG (d := 54) (f := 34) (args := #[.pointer (some ⟨b15, 0, none⟩)]) (wlLen_open (e := 9) (r := rr) hb38) (k := fun e_ w53 h_ => ⟨.int .i64 rr, h_.1, ?_⟩)
        have k54 := h_.2; clear h_
        replace hb35 := hb35.adds k54
        replace hb38 := k54.heap hb38 id
        replace K := K.trans (k54.any _)
        refine WL.op (d := 55) (.int .i64 i) (k := ?_)
        refine WL.opE (d := 56) (.int .i64 (IntKind.i64.wrap (i + 1))) (v := .int .i64 (i + 1)) (congrArg (Value.int .i64) (IntWalk.i64_in _ (by omega))) (k := ?_)
        refine WL.op (d := 57) (.int .i64 (m : Int)) (k := ?_)
        obtain ⟨mn55, hq56, hr57⟩ := ite_ex ((m : Int) < (i + 1)) ((m : Int) : Int) (i + 1 : Int)
        refine WL.opE (d := 58) (.int .i64 (if (m : Int) < (i + 1) then (m : Int) else (i + 1))) (v := .int .i64 mn55) (congrArg (Value.int .i64) hq56) (k := ?_)
        refine WL.op (d := 59) (.bool (rr != mn55)) (k := ?_)
        refine WL.op (d := 60) (.bool (rr != mn55)) (k := ?_)
        refine WL.op (d := 61) (.bool (rr != mn55)) (k := ?_)
        refine bsplit (rr != mn55) (fun h58 => ?_) (fun h58 => ?_)
        · have ph58 := bne_iff_ne.1 h58
          refine WL.rw (t := 61) (v := .bool true) (congrArg Value.bool h58) (k := ?_)
          refine WL.skip (d := 62) (k := ?_)
          refine WL.skip (d := 63) (k := ?_)
          refine WL.skip (d := 64) (k := ?_)
          refine WL.skip (d := 65) (k := ?_)
          refine WL.skip (d := 66) (k := ?_)
          refine WL.skip (d := 67) (k := ?_)
          refine WL.skip (d := 68) (k := ?_)
          refine WL.skip (d := 69) (k := ?_)
          refine WL.skip (d := 70) (k := ?_)
          refine WL.op (d := 71) (.bool true) (k := ?_)
          refine WL.nil ?_
          refine WX.seqN ?_
          refine WC.condT (k := ?_)
          refine WC.seq ?_
          refine WC.region ?_
          refine WL.op (d := 4) (.bool false) (k := ?_)
          refine WL.nil ?_
          refine WX.seqN ?_
          refine WC.ret ?_
          refine WX.blockR ?_
          refine WX.seqR ?_
          refine WX.seqR ?_
          refine WX.blockR ?_
          refine WX.seqR ?_
          refine WX.ret (rs := [.tmp 4]) [.bool false] (.bool false) ⟨(by kernel_rfl), trivial⟩ (k := ?_)
          exfalso; omega
        · have ph58 := of_bne_false h58
          refine WL.rw (t := 61) (v := .bool false) (congrArg Value.bool h58) (k := ?_)
          refine WL.op (d := 62) (.pointer (some ⟨b15, 0, none⟩)) (k := ?_)
          refine WL.callG (d := 63) (f := 35) (args := #[.pointer (some ⟨b15, 0, none⟩)]) (wlLeft_open (e := 9) (r := rr) hb38 (by omega) (by omega)) (k := fun e_ w59 h_ => ⟨.int .i64 ((m : Int) - rr), h_.1, ?_⟩)
          have k60 := h_.2; clear h_
          replace hb35 := hb35.adds k60
          replace hb38 := k60.heap hb38 id
          replace K := K.trans (k60.any _)
          refine WL.op (d := 64) (.int .i64 (m : Int)) (k := ?_)
          refine WL.op (d := 65) (.int .i64 i) (k := ?_)
          refine WL.opE (d := 66) (.int .i64 (IntKind.i64.wrap (i + 1))) (v := .int .i64 (i + 1)) (congrArg (Value.int .i64) (IntWalk.i64_in _ (by omega))) (k := ?_)
          refine WL.op (d := 67) (.int .i64 (m : Int)) (k := ?_)
          obtain ⟨mn61, hq62, hr63⟩ := ite_ex ((m : Int) < (i + 1)) ((m : Int) : Int) (i + 1 : Int)
          refine WL.opE (d := 68) (.int .i64 (if (m : Int) < (i + 1) then (m : Int) else (i + 1))) (v := .int .i64 mn61) (congrArg (Value.int .i64) hq62) (k := ?_)
          refine WL.opE (d := 69) (.int .i64 (IntKind.i64.wrap ((m : Int) - mn61))) (v := .int .i64 ((m : Int) - mn61)) (congrArg (Value.int .i64) (IntWalk.i64_in _ (by omega))) (k := ?_)
          refine WL.op (d := 70) (.bool (((m : Int) - rr) != ((m : Int) - mn61))) (k := ?_)
          refine WL.op (d := 71) (.bool (((m : Int) - rr) != ((m : Int) - mn61))) (k := ?_)
          refine WL.nil ?_
          refine WX.seqN ?_
          refine WC.cond (b := ((m : Int) - rr) != ((m : Int) - mn61)) (ht := fun h64 => ?_) (hf := fun h64 => ?_)
          · have ph64 := bne_iff_ne.1 h64
            refine WC.seq ?_
            refine WC.region ?_
            refine WL.op (d := 4) (.bool false) (k := ?_)
            refine WL.nil ?_
            refine WX.seqN ?_
            refine WC.ret ?_
            refine WX.blockR ?_
            refine WX.seqR ?_
            refine WX.seqR ?_
            refine WX.blockR ?_
            refine WX.seqR ?_
            refine WX.ret (rs := [.tmp 4]) [.bool false] (.bool false) ⟨(by kernel_rfl), trivial⟩ (k := ?_)
            exfalso; omega
          · have ph64 := of_bne_false h64
            refine WC.skip ?_
            refine WX.blockN ?_
            refine WX.seqN ?_
            refine WC.region ?_
            refine WL.op (d := 43) (.int .i64 i) (k := ?_)
            refine WL.opE (d := 44) (.int .i64 (IntKind.i64.wrap (i + 1))) (v := .int .i64 (i + 1)) (congrArg (Value.int .i64) (IntWalk.i64_in _ (by omega))) (k := ?_)
            refine WL.op (d := 9) (.int .i64 (i + 1)) (k := ?_)
            refine WL.nil ?_
            refine WX.round (i + 1, rr, sc, Si) (by show (12 - (i + 1)).toNat < (12 - i).toNat; omega) ⟨(by kernel_rfl), (by kernel_rfl), (by kernel_rfl), (by kernel_rfl), (by kernel_rfl), (by kernel_rfl), (by kernel_rfl), (by kernel_rfl), (by kernel_rfl), (by kernel_rfl), (by kernel_rfl), (by kernel_rfl), (by kernel_rfl), (by kernel_rfl), (by kernel_rfl), (by kernel_rfl), (by kernel_rfl), (by kernel_rfl), (by kernel_rfl), (by kernel_rfl), (by kernel_rfl), (by kernel_rfl), (by kernel_rfl), (by kernel_rfl), (by kernel_rfl), (by kernel_rfl), (by kernel_rfl), (by kernel_rfl), (by kernel_rfl), (by kernel_rfl), (by kernel_rfl), (by kernel_rfl), (by kernel_rfl), (by kernel_rfl), (by kernel_rfl), (by kernel_rfl), trivial⟩ ⟨K, hb35, lk36, n37, hb38, (by omega), (by omega), (by omega), (by omega), (by omega), (by (try simp only [List.length_set]); omega), (by omega)⟩
    · have ph40 := of_decide_eq_false h40
      refine WC.skip ?_
      refine WX.seqN ?_
      refine WC.seq ?_
      refine WC.region ?_
      refine WL.op (d := 48) (.pointer (some ⟨b15, 0, none⟩)) (k := ?_)
      refine bsplit (decide (rr < (m : Int))) (fun h65 => ?_) (fun h65 => ?_)
      · have ph65 := of_decide_eq_true h65
        refine WL.callG (d := 49) (f := 32) (args := #[.pointer (some ⟨b15, 0, none⟩), .string ⟨#[114]⟩]) (wlAppend_good (l := [114]) (e := 9) (r := rr) hb38 hb35 n37 (by show List.length [114] ≤ 43; first | omega | (simp; done) | (simp; omega)) (by omega) (by omega) (by omega) (by omega) (by omega) (by omega) (by omega)) (k := fun e_ w66 h_ => ?_)
        obtain ⟨S67, rfl, hb68, hd69, lk70, n71, k72⟩ := h_
        refine ⟨_, rfl, ?_⟩
        have lk73 := lk_step lk36 lk70 K
        replace K := K.trans' k72 (fun i hi e => e.elim (fun e => absurd (e ▸ hi) (Nat.not_lt.2 z19)) (fun e => (lk36 i e).elim (fun h => h.elim) (fun h => absurd hi (Nat.not_lt.2 h))))
        clear hb38
        clear hb35
        change DiskAt S67 b4 (⟨List.set sc (0 + rr).toNat (makeS [114] 9 rr.toNat), [], 0, 0⟩ : GDisk) w66 at hd69
        have ln74 : (List.set sc (0 + rr).toNat (makeS [114] 9 rr.toNat)).length = List.length sc := List.length_set ..
        refine WL.op (d := 50) (.int .i64 0) (k := ?_)
        refine WL.op (d := 51) (.bool false) (k := ?_)
        refine WL.op (d := 52) (.bool false) (k := ?_)
        refine WL.op (d := 53) (.pointer (some ⟨b15, 0, none⟩)) (k := ?_)
        refine WL.callG (d := 54) (f := 34) (args := #[.pointer (some ⟨b15, 0, none⟩)]) (wlLen_open (e := 9) (r := rr + 1) hb68) (k := fun e_ w75 h_ => ⟨.int .i64 (rr + 1), h_.1, ?_⟩)
        have k76 := h_.2; clear h_
        replace hd69 := hd69.adds k76
        replace hb68 := k76.heap hb68 id
        replace K := K.trans (k76.any _)
        refine WL.op (d := 55) (.int .i64 i) (k := ?_)
        refine WL.opE (d := 56) (.int .i64 (IntKind.i64.wrap (i + 1))) (v := .int .i64 (i + 1)) (congrArg (Value.int .i64) (IntWalk.i64_in _ (by omega))) (k := ?_)
        refine WL.op (d := 57) (.int .i64 (m : Int)) (k := ?_)
        obtain ⟨mn77, hq78, hr79⟩ := ite_ex ((m : Int) < (i + 1)) ((m : Int) : Int) (i + 1 : Int)
        refine WL.opE (d := 58) (.int .i64 (if (m : Int) < (i + 1) then (m : Int) else (i + 1))) (v := .int .i64 mn77) (congrArg (Value.int .i64) hq78) (k := ?_)
        refine WL.op (d := 59) (.bool ((rr + 1) != mn77)) (k := ?_)
        refine WL.op (d := 60) (.bool ((rr + 1) != mn77)) (k := ?_)
        refine WL.op (d := 61) (.bool ((rr + 1) != mn77)) (k := ?_)
        refine bsplit ((rr + 1) != mn77) (fun h80 => ?_) (fun h80 => ?_)
        · have ph80 := bne_iff_ne.1 h80
          refine WL.rw (t := 61) (v := .bool true) (congrArg Value.bool h80) (k := ?_)
          refine WL.skip (d := 62) (k := ?_)
          refine WL.skip (d := 63) (k := ?_)
          refine WL.skip (d := 64) (k := ?_)
          refine WL.skip (d := 65) (k := ?_)
          refine WL.skip (d := 66) (k := ?_)
          refine WL.skip (d := 67) (k := ?_)
          refine WL.skip (d := 68) (k := ?_)
          refine WL.skip (d := 69) (k := ?_)
          refine WL.skip (d := 70) (k := ?_)
          refine WL.op (d := 71) (.bool true) (k := ?_)
          refine WL.nil ?_
          refine WX.seqN ?_
          refine WC.condT (k := ?_)
          refine WC.seq ?_
          refine WC.region ?_
          refine WL.op (d := 4) (.bool false) (k := ?_)
          refine WL.nil ?_
          refine WX.seqN ?_
          refine WC.ret ?_
          refine WX.blockR ?_
          refine WX.seqR ?_
          refine WX.seqR ?_
          refine WX.blockR ?_
          refine WX.seqR ?_
          refine WX.ret (rs := [.tmp 4]) [.bool false] (.bool false) ⟨(by kernel_rfl), trivial⟩ (k := ?_)
          exfalso; omega
        · have ph80 := of_bne_false h80
          refine WL.rw (t := 61) (v := .bool false) (congrArg Value.bool h80) (k := ?_)
          refine WL.op (d := 62) (.pointer (some ⟨b15, 0, none⟩)) (k := ?_)
          refine WL.callG (d := 63) (f := 35) (args := #[.pointer (some ⟨b15, 0, none⟩)]) (wlLeft_open (e := 9) (r := rr + 1) hb68 (by omega) (by omega)) (k := fun e_ w81 h_ => ⟨.int .i64 ((m : Int) - (rr + 1)), h_.1, ?_⟩)
          have k82 := h_.2; clear h_
          replace hd69 := hd69.adds k82
          replace hb68 := k82.heap hb68 id
          replace K := K.trans (k82.any _)
          refine WL.op (d := 64) (.int .i64 (m : Int)) (k := ?_)
          refine WL.op (d := 65) (.int .i64 i) (k := ?_)
          refine WL.opE (d := 66) (.int .i64 (IntKind.i64.wrap (i + 1))) (v := .int .i64 (i + 1)) (congrArg (Value.int .i64) (IntWalk.i64_in _ (by omega))) (k := ?_)
          refine WL.op (d := 67) (.int .i64 (m : Int)) (k := ?_)
          obtain ⟨mn83, hq84, hr85⟩ := ite_ex ((m : Int) < (i + 1)) ((m : Int) : Int) (i + 1 : Int)
          refine WL.opE (d := 68) (.int .i64 (if (m : Int) < (i + 1) then (m : Int) else (i + 1))) (v := .int .i64 mn83) (congrArg (Value.int .i64) hq84) (k := ?_)
          refine WL.opE (d := 69) (.int .i64 (IntKind.i64.wrap ((m : Int) - mn83))) (v := .int .i64 ((m : Int) - mn83)) (congrArg (Value.int .i64) (IntWalk.i64_in _ (by omega))) (k := ?_)
          refine WL.op (d := 70) (.bool (((m : Int) - (rr + 1)) != ((m : Int) - mn83))) (k := ?_)
          refine WL.op (d := 71) (.bool (((m : Int) - (rr + 1)) != ((m : Int) - mn83))) (k := ?_)
          refine WL.nil ?_
          refine WX.seqN ?_
          refine WC.cond (b := ((m : Int) - (rr + 1)) != ((m : Int) - mn83)) (ht := fun h86 => ?_) (hf := fun h86 => ?_)
          · have ph86 := bne_iff_ne.1 h86
            refine WC.seq ?_
            refine WC.region ?_
            refine WL.op (d := 4) (.bool false) (k := ?_)
            refine WL.nil ?_
            refine WX.seqN ?_
            refine WC.ret ?_
            refine WX.blockR ?_
            refine WX.seqR ?_
            refine WX.seqR ?_
            refine WX.blockR ?_
            refine WX.seqR ?_
            refine WX.ret (rs := [.tmp 4]) [.bool false] (.bool false) ⟨(by kernel_rfl), trivial⟩ (k := ?_)
            exfalso; omega
          · have ph86 := of_bne_false h86
            refine WC.skip ?_
            refine WX.blockN ?_
            refine WX.seqN ?_
            refine WC.region ?_
            refine WL.op (d := 43) (.int .i64 i) (k := ?_)
            refine WL.opE (d := 44) (.int .i64 (IntKind.i64.wrap (i + 1))) (v := .int .i64 (i + 1)) (congrArg (Value.int .i64) (IntWalk.i64_in _ (by omega))) (k := ?_)
            refine WL.op (d := 9) (.int .i64 (i + 1)) (k := ?_)
            refine WL.nil ?_
            refine WX.round (i + 1, rr + 1, List.set sc (0 + rr).toNat (makeS [114] 9 rr.toNat), S67) (by show (12 - (i + 1)).toNat < (12 - i).toNat; omega) ⟨(by kernel_rfl), (by kernel_rfl), (by kernel_rfl), (by kernel_rfl), (by kernel_rfl), (by kernel_rfl), (by kernel_rfl), (by kernel_rfl), (by kernel_rfl), (by kernel_rfl), (by kernel_rfl), (by kernel_rfl), (by kernel_rfl), (by kernel_rfl), (by kernel_rfl), (by kernel_rfl), (by kernel_rfl), (by kernel_rfl), (by kernel_rfl), (by kernel_rfl), (by kernel_rfl), (by kernel_rfl), (by kernel_rfl), (by kernel_rfl), (by kernel_rfl), (by kernel_rfl), (by kernel_rfl), (by kernel_rfl), (by kernel_rfl), (by kernel_rfl), (by kernel_rfl), (by kernel_rfl), (by kernel_rfl), (by kernel_rfl), (by kernel_rfl), (by kernel_rfl), trivial⟩ ⟨K, hd69, lk73, n71, hb68, (by omega), (by omega), (by omega), (by omega), (by omega), (by (try simp only [List.length_set]); omega), (by omega)⟩
      · have ph65 := of_decide_eq_false h65
        refine WL.callG (d := 49) (f := 32) (args := #[.pointer (some ⟨b15, 0, none⟩), .string ⟨#[114]⟩]) (wlAppend_full (l := [114]) hb38 hb35 n37 (by show List.length [114] ≤ 43; first | omega | (simp; done) | (simp; omega)) (by omega)) (k := fun e_ w87 h_ => ⟨.int .i64 22, h_.1, ?_⟩)
        have k88 := h_.2; clear h_
        replace hb35 := hb35.adds k88
        replace hb38 := k88.heap hb38 id
        replace K := K.trans (k88.any _)
        refine WL.op (d := 50) (.int .i64 0) (k := ?_)
        refine WL.op (d := 51) (.bool true) (k := ?_)
        refine WL.op (d := 52) (.bool true) (k := ?_)
        refine WL.skip (d := 53) (k := ?_)
        refine WL.skip (d := 54) (k := ?_)
        refine WL.skip (d := 55) (k := ?_)
        refine WL.skip (d := 56) (k := ?_)
        refine WL.skip (d := 57) (k := ?_)
        refine WL.skip (d := 58) (k := ?_)
        refine WL.skip (d := 59) (k := ?_)
        refine WL.op (d := 60) (.bool true) (k := ?_)
        refine WL.op (d := 61) (.bool true) (k := ?_)
        refine WL.skip (d := 62) (k := ?_)
        refine WL.skip (d := 63) (k := ?_)
        refine WL.skip (d := 64) (k := ?_)
        refine WL.skip (d := 65) (k := ?_)
        refine WL.skip (d := 66) (k := ?_)
        refine WL.skip (d := 67) (k := ?_)
        refine WL.skip (d := 68) (k := ?_)
        refine WL.skip (d := 69) (k := ?_)
        refine WL.skip (d := 70) (k := ?_)
        refine WL.op (d := 71) (.bool true) (k := ?_)
        refine WL.nil ?_
        refine WX.seqN ?_
        refine WC.condT (k := ?_)
        refine WC.seq ?_
        refine WC.region ?_
        refine WL.op (d := 4) (.bool false) (k := ?_)
        refine WL.nil ?_
        refine WX.seqN ?_
        refine WC.ret ?_
        refine WX.blockR ?_
        refine WX.seqR ?_
        refine WX.seqR ?_
        refine WX.blockR ?_
        refine WX.seqR ?_
        refine WX.ret (rs := [.tmp 4]) [.bool false] (.bool false) ⟨(by kernel_rfl), trivial⟩ (k := ?_)
        exfalso; omega
  · have ph39 := of_decide_eq_false h39
    refine WC.exit ?_
    refine WX.seqE ?_
    refine WX.seqE ?_
    refine WX.blockE ?_
    refine WX.seqN ?_
    refine WC.seq ?_
    refine WC.region ?_
    refine WL.op (d := 72) (.bool true) (k := ?_)
    refine WL.op (d := 73) (.bool true) (k := ?_)
    refine WL.op (d := 74) (.pointer (some ⟨b15, 0, none⟩)) (k := ?_)
    refine WL.newF (d := 75) (T := 5) (List.replicate 44 (Value.int .u8 0)).toArray (fun b => .slice (some ⟨b, 0, none⟩) 44 44) (k := fun b89 w90 g91 hb92 k93 => ?_)
    have z96 := Nat.le_trans K.size g91
    have n97 : ¬ Si b89 := fun h => absurd (hb35.lt _ h) (Nat.not_lt.2 g91)
    have n98 : b15 ≠ b89 := Nat.ne_of_lt (Nat.lt_of_lt_of_le (lt_of_heap hb38) g91)
    replace hb35 := hb35.adds k93
    replace hb38 := k93.heap hb38 id
    replace K := K.trans (k93.any _)
    have ho94 := OwAt.made (N := 44) hb92 (by decide)
    have ol95 : ∀ i, blk (some ⟨b89, 0, none⟩) = some i → w.heap.size ≤ i := fun i e => by cases e; exact z96
    refine WL.conv (d := 76) (vx := .slice (some ⟨b89, 0, none⟩) 44 44) (v := .string ⟨(List.replicate 44 0).toArray⟩) (ofBytesSl (n := 44) (ho94.sl ekU8) (by first | rfl | omega | (simp; omega))) (k := ?_)
    refine WL.callG (d := 77) (f := 32) (args := #[.pointer (some ⟨b15, 0, none⟩), .string ⟨(List.replicate 44 0).toArray⟩]) (wlAppend_long (l := List.replicate 44 0) hb38 hb35 n37 (by simp)) (k := fun e_ w99 h_ => ⟨.int .i64 1, h_.1, ?_⟩)
    have k100 := h_.2; clear h_
    replace hb35 := hb35.adds k100
    replace hb38 := k100.heap hb38 id
    replace ho94 := ho94.adds k100
    replace K := K.trans (k100.any _)
    refine WL.op (d := 78) (.bool true) (k := ?_)
    refine WL.op (d := 79) (.bool true) (k := ?_)
    refine WL.op (d := 80) (.bool true) (k := ?_)
    refine WL.op (d := 81) (.pointer (some ⟨b15, 0, none⟩)) (k := ?_)
    refine WL.callG (d := 82) (f := 34) (args := #[.pointer (some ⟨b15, 0, none⟩)]) (wlLen_open (e := 9) (r := rr) hb38) (k := fun e_ w101 h_ => ⟨.int .i64 rr, h_.1, ?_⟩)
    have k102 := h_.2; clear h_
    replace hb35 := hb35.adds k102
    replace hb38 := k102.heap hb38 id
    replace ho94 := ho94.adds k102
    replace K := K.trans (k102.any _)
    refine WL.op (d := 83) (.int .i64 r32) (k := ?_)
    refine WL.op (d := 84) (.int .i64 (m : Int)) (k := ?_)
    obtain ⟨mn103, hq104, hr105⟩ := ite_ex ((m : Int) < r32) ((m : Int) : Int) (r32 : Int)
    refine WL.opE (d := 85) (.int .i64 (if (m : Int) < r32 then (m : Int) else r32)) (v := .int .i64 mn103) (congrArg (Value.int .i64) hq104) (k := ?_)
    refine WL.op (d := 86) (.bool (rr == mn103)) (k := ?_)
    refine WL.op (d := 87) (.bool (rr == mn103)) (k := ?_)
    refine WL.op (d := 4) (.bool (rr == mn103)) (k := ?_)
    refine WL.nil ?_
    refine WX.seqN ?_
    refine WC.ret ?_
    refine WX.ret (rs := [.tmp 4]) [.bool (rr == mn103)] (.bool (rr == mn103)) ⟨(by kernel_rfl), trivial⟩ (k := ?_)
    exact ⟨ret_bool (beq_iff_eq.2 (by omega)), K⟩

end Go.Proofs.YtdoenmokahbeaaaDoor
