
/- What the kinds of ops put. -/
import Derived.Test.YtfpdfjbooalgjaaOp4
import Derived.Test.YtfpdfjbooalgjaaWr2
namespace Go.Proofs.Ytfpdfjbooalgjaa
open Go.RowKit
set_option linter.unusedVariables false

theorem BuR.uniq {T B B' b : Nat} {r r' : Option Nat} {bs bs' : List UInt8} {w : World} (h : BuR T B b r bs w) (h' : BuR T B' b r' bs' w) : r = r' := by
  obtain ⟨p, v, _, hb, _, _, q⟩ := h
  obtain ⟨p', v', _, hb', _, _, q'⟩ := h'
  rw [hb] at hb'
  simp only [Option.some.injEq, Obj.cells.injEq, Array.mk.injEq, List.cons.injEq] at hb'
  rw [← q, ← q', hb'.1.2.1]
theorem WrPost.step' {T b : Nat} {r r1 : Option Nat} {bs bs' bs'' : List UInt8} {w w1 w2 : World} (h : WrPost T b r bs w w1) (h1 : BuR T 0 b r1 bs'' w1) (g : WrPost T b r1 bs' w1 w2) : WrPost T b r bs' w w2 :=
  h.step (fun r2 hr2 => by rw [hr2.uniq h1]; exact g)

/-- The numbers z i, z (i+1), .., m of them, as they are written. -/
def encs (z : Nat → Nat) : Nat → Nat → List UInt8
  | _, 0 => []
  | i, m + 1 => encNum (z i) ++ encs z (i + 1) m
theorem removePuts_c (b : Nat) (r : Option Nat) (bs : List UInt8) (id : Int) (hid : id ≤ 9223372036854775807) (w : World) (h : BuR 64 0 b r bs w) (hlen : bs.length ≤ 900000000) :
    Calls Try.prog 99 #[.agg #[.int .i64 id], .pointer (some ⟨b, 0, none⟩)] w fun e w' => e = .returned (.tuple #[]) ∧ WrPost 64 b r (bs ++ encNum id.toNat) w w' := by
  have P0 := (WrPost.refl h).alloc (.cells #[.int .i64 id] 103)
  obtain ⟨r1, h1, n1, k1⟩ := P0
  have P : Hid (WrPost 64 b r bs w (w.alloc (.cells #[.int .i64 id] 103))) := ⟨r1, h1, n1, k1⟩
  clear n1 k1
  have H1 : Hid (BuR 64 0 b r1 bs (w.alloc (.cells #[.int .i64 id] 103))) := h1
  clear h1
  go_enter Try.func99, Try.ntmps99
  go_wp2_with (go_at_call 41; refine (wInt_r b r1 bs id hid _ H1.out hlen).mono ?_; rintro e w2 ⟨rfl, P2⟩; have P3 : Hid (WrPost 64 b r1 (bs ++ encNum id.toNat) _ w2) := P2; clear P2)
  go_returns
  exact ⟨rfl, P.out.step' H1.out P3.out⟩

theorem modePuts_c (b : Nat) (r : Option Nat) (bs : List UInt8) (id : Int) (hid : id ≤ 9223372036854775807) (w : World) (h : BuR 64 0 b r bs w) (hlen : bs.length ≤ 900000000) :
    Calls Try.prog 105 #[.agg #[.int .i64 id], .pointer (some ⟨b, 0, none⟩)] w fun e w' => e = .returned (.tuple #[]) ∧ WrPost 64 b r (bs ++ encNum id.toNat) w w' := by
  have P0 := (WrPost.refl h).alloc (.cells #[.int .i64 id] 107)
  obtain ⟨r1, h1, n1, k1⟩ := P0
  have P : Hid (WrPost 64 b r bs w (w.alloc (.cells #[.int .i64 id] 107))) := ⟨r1, h1, n1, k1⟩
  clear n1 k1
  have H1 : Hid (BuR 64 0 b r1 bs (w.alloc (.cells #[.int .i64 id] 107))) := h1
  clear h1
  go_enter Try.func105, Try.ntmps105
  go_wp2_with (go_at_call 41; refine (wInt_r b r1 bs id hid _ H1.out hlen).mono ?_; rintro e w2 ⟨rfl, P2⟩; have P3 : Hid (WrPost 64 b r1 (bs ++ encNum id.toNat) _ w2) := P2; clear P2)
  go_returns
  exact ⟨rfl, P.out.step' H1.out P3.out⟩

theorem wrapU (n : Nat) (h : n < 18446744073709551616) : IntKind.u64.wrap (n : Int) = n := by
  simp only [IntKind.wrap, IntKind.signed, IntKind.bits]
  simp
  omega

theorem wInt_p {b : Nat} {r : Option Nat} {bs : List UInt8} {w w1 : World} (P : WrPost 64 b r bs w w1) (x : Int) (hx : x ≤ 9223372036854775807) (hlen : bs.length ≤ 900000000) :
    Calls Try.prog 41 #[.pointer (some ⟨b, 0, none⟩), .int .i64 x] w1 fun e w' => e = .returned (.pointer (some ⟨b, 0, none⟩)) ∧ WrPost 64 b r (bs ++ encNum x.toNat) w w' := by
  obtain ⟨r1, h1, n1, k1⟩ := id P
  exact (wInt_r b r1 bs x hx _ h1 hlen).mono (fun e w' h => ⟨h.1, P.step' h1 h.2⟩)
theorem wNum_p {b : Nat} {r : Option Nat} {bs : List UInt8} {w w1 : World} (P : WrPost 64 b r bs w w1) (n : Nat) (x : Int) (hx : x = n) (hn : n < 18446744073709551616) (hlen : bs.length ≤ 900000000) :
    Calls Try.prog 44 #[.pointer (some ⟨b, 0, none⟩), .int .u64 x] w1 fun e w' => e = .returned (.pointer (some ⟨b, 0, none⟩)) ∧ WrPost 64 b r (bs ++ encNum n) w w' := by
  obtain ⟨r1, h1, n1, k1⟩ := id P
  exact (wNum_r b r1 bs n x hx hn _ h1 hlen).mono (fun e w' h => ⟨h.1, P.step' h1 h.2⟩)
theorem wFlag_p {b : Nat} {r : Option Nat} {bs : List UInt8} {w w1 : World} (P : WrPost 64 b r bs w w1) (f : Bool) (hlen : bs.length ≤ 900000000) :
    Calls Try.prog 96 #[.pointer (some ⟨b, 0, none⟩), .bool f] w1 fun e w' => e = .returned (.pointer (some ⟨b, 0, none⟩)) ∧ WrPost 64 b r (bs ++ encFlag f) w w' := by
  obtain ⟨r1, h1, n1, k1⟩ := id P
  exact (wFlag_r b r1 bs f _ h1 hlen).mono (fun e w' h => ⟨h.1, P.step' h1 h.2⟩)

theorem BuR.off {T b : Nat} {r : Option Nat} {bs : List UInt8} {w : World} (h : BuR T 0 b r bs w) {i : Nat} (hi : w.heap.size ≤ i) : ¬ (i = b ∨ r = some i) := by
  intro hx
  rcases hx with hx | hx
  · obtain ⟨_, _, _, hb, _⟩ := h
    have := lt_of_heap hb
    omega
  · have := (h.lt _ hx).2.1
    omega

theorem resizePuts_c (b : Nat) (r : Option Nat) (bs : List UInt8) (id : Int) (hid : id ≤ 2147483647) (n : Nat) (hn : n ≤ 2147483648) (w : World) (h : BuR 64 0 b r bs w) (hlen : bs.length ≤ 800000000) :
    Calls Try.prog 102 #[.agg #[.int .i64 id, .int .i64 n], .pointer (some ⟨b, 0, none⟩)] w fun e w' => e = .returned (.tuple #[]) ∧ WrPost 64 b r (bs ++ encNum id.toNat ++ encNum n) w w' := by
  have K := ((Keeps.refl (fun _ => False) w).alloc (.cells #[.int .i64 id, .int .i64 n] 105)).drew
  have P : Hid (WrPost 64 b r bs w _) := (WrPost.refl h).then K
  have P1 : Hid (WrPost 64 b r bs (w.alloc (.cells #[.int .i64 id, .int .i64 n] 105)).drew _) := WrPost.refl (h.keeps K (fun x => x) (fun _ _ x => x))
  have hne := h.off (Nat.le_refl _)
  have c0 : (w.alloc (.cells #[.int .i64 id, .int .i64 n] 105)).drew.cell? ⟨w.heap.size, 0, none⟩ = some (.int .i64 id) := cell_at (heap_alloc_new' w _) 0 rfl
  have c1 : (w.alloc (.cells #[.int .i64 id, .int .i64 n] 105)).drew.cell? ⟨w.heap.size, 1, none⟩ = some (.int .i64 n) := cell_at (heap_alloc_new' w _) 1 rfl
  have l0 := encNum_len id.toNat (by omega)
  have hb : Hid (BuR 64 0 b r bs w) := h
  clear h K
  go_enter Try.func102, Try.ntmps102
  go_wp2
  go_region_held3 (fun w' => w'.cell? ⟨w.heap.size, 0, none⟩ = some (.int .i64 id) ∧ w'.cell? ⟨w.heap.size, 1, none⟩ = some (.int .i64 n)) ((first | (go_keep; done) | assumption)) (first | (go_at_call 41; refine (wInt_p P1.out _ (by omega) (by (try simp only [List.length_append]); omega)).mono ?_; rintro e w2 ⟨rfl, P2⟩; have P1 : Hid (WrPost 64 b r _ _ w2) := P2; have q0 := P2.keeps.cell c0 hne; have q1 := P2.keeps.cell c1 hne; clear P2) | (go_at_call 44; refine (wNum_p P1.out n _ (wrapU n (by omega)) (by omega) (by (try simp only [List.length_append]); omega)).mono ?_; rintro e w2 ⟨rfl, P2⟩; have P1 : Hid (WrPost 64 b r _ _ w2) := P2; have q0 := P2.keeps.cell c0 hne; have q1 := P2.keeps.cell c1 hne; clear P2))
  clear c0 c1
  go_wp2
  go_returns
  exact ⟨rfl, P.out.step' (hb.out.keeps (((Keeps.refl (fun _ => False) w).alloc _).drew) (fun x => x) (fun _ _ x => x)) P1.out⟩

set_option maxRecDepth 100000 in
set_option maxHeartbeats 4000000 in
theorem admitPuts_c (b : Nat) (r : Option Nat) (bs : List UInt8) (a m : Int) (ha : a ≤ 2147483647) (hm : m ≤ 2147483647) (c d e : Nat) (hc : c ≤ 2147483648) (hd : d ≤ 2147483648) (he : e ≤ 2147483648) (sv : Bool) (w : World) (h : BuR 64 0 b r bs w) (hlen : bs.length ≤ 800000000) :
    Calls Try.prog 94 #[.agg #[.int .i64 a, .int .i64 c, .int .i64 d, .int .i64 e, .int .i64 m, .bool sv], .pointer (some ⟨b, 0, none⟩)] w fun x w' => x = .returned (.tuple #[]) ∧ WrPost 64 b r (bs ++ encNum a.toNat ++ encNum c ++ encNum d ++ encNum e ++ encNum m.toNat ++ encFlag sv) w w' := by
  obtain ⟨W, hW⟩ : ∃ W, W = (w.alloc (.cells #[.int .i64 a, .int .i64 c, .int .i64 d, .int .i64 e, .int .i64 m, .bool sv] 101)).alloc (.cells #[.int .i64 a, .int .i64 c, .int .i64 d, .int .i64 e, .int .i64 m] 27) := ⟨_, rfl⟩
  have K : Adds w W.drew := by
    subst hW
    exact (((Keeps.refl (fun _ => False) w).alloc _).alloc _).drew
  have hb : BuR 64 0 b r bs W.drew := h.keeps K (fun x => x) (fun _ _ x => x)
  have P1 : Hid (WrPost 64 b r bs W.drew _) := WrPost.refl hb
  have hne0 := h.off (Nat.le_refl _)
  have hne1 := h.off (i := w.heap.size + 1) (Nat.le_succ _)
  have c0 : W.drew.cell? ⟨w.heap.size + 1, 0, none⟩ = some (.int .i64 a) := by subst hW; simp [go_sem]
  have c1 : W.drew.cell? ⟨w.heap.size + 1, 1, none⟩ = some (.int .i64 c) := by subst hW; simp [go_sem]
  have c2 : W.drew.cell? ⟨w.heap.size + 1, 2, none⟩ = some (.int .i64 d) := by subst hW; simp [go_sem]
  have c3 : W.drew.cell? ⟨w.heap.size + 1, 3, none⟩ = some (.int .i64 e) := by subst hW; simp [go_sem]
  have c4 : W.drew.cell? ⟨w.heap.size + 1, 4, none⟩ = some (.int .i64 m) := by subst hW; simp [go_sem]
  have c5 : W.drew.cell? ⟨w.heap.size, 5, none⟩ = some (.bool sv) := by subst hW; simp [go_sem]
  have l0 := encNum_len a.toNat (by omega)
  have l1 := encNum_len c (by omega)
  have l2 := encNum_len d (by omega)
  have l3 := encNum_len e (by omega)
  have l4 := encNum_len m.toNat (by omega)
  have fin : ∀ bs' w2, WrPost 64 b r bs' W.drew w2 → WrPost 64 b r bs' w w2 := fun bs' w2 P => ((WrPost.refl h).then K).step' hb P
  have fin := Lib.hid fin
  clear h K hb
  go_enter Try.func94, Try.ntmps94
  go_wp2
  rw [← hW]
  clear hW
  go_region_held3 (fun w' => w'.cell? ⟨w.heap.size + 1, 0, none⟩ = some (.int .i64 a) ∧ w'.cell? ⟨w.heap.size + 1, 1, none⟩ = some (.int .i64 c) ∧ w'.cell? ⟨w.heap.size + 1, 2, none⟩ = some (.int .i64 d) ∧ w'.cell? ⟨w.heap.size + 1, 3, none⟩ = some (.int .i64 e) ∧ w'.cell? ⟨w.heap.size + 1, 4, none⟩ = some (.int .i64 m) ∧ w'.cell? ⟨w.heap.size, 5, none⟩ = some (.bool sv)) ((first | (go_keep; done) | assumption)) (first | (go_at_call 41; (with_reducible refine (wInt_p P1.out a (by omega) (by (try simp only [List.length_append]); omega)).mono ?_); rintro x w2 ⟨rfl, P2⟩; have P1 : Hid (WrPost 64 b r _ _ w2) := P2; have q0 := P2.keeps.cell c0 hne1; have q1 := P2.keeps.cell c1 hne1; have q2 := P2.keeps.cell c2 hne1; have q3 := P2.keeps.cell c3 hne1; have q4 := P2.keeps.cell c4 hne1; have q5 := P2.keeps.cell c5 hne0; clear P2) | (go_at_call 41; (with_reducible refine (wInt_p P1.out m (by omega) (by (try simp only [List.length_append]); omega)).mono ?_); rintro x w2 ⟨rfl, P2⟩; have P1 : Hid (WrPost 64 b r _ _ w2) := P2; have q0 := P2.keeps.cell c0 hne1; have q1 := P2.keeps.cell c1 hne1; have q2 := P2.keeps.cell c2 hne1; have q3 := P2.keeps.cell c3 hne1; have q4 := P2.keeps.cell c4 hne1; have q5 := P2.keeps.cell c5 hne0; clear P2) | (go_at_call 44; (with_reducible refine (wNum_p P1.out c _ (wrapU c (by omega)) (by omega) (by (try simp only [List.length_append]); omega)).mono ?_); rintro x w2 ⟨rfl, P2⟩; have P1 : Hid (WrPost 64 b r _ _ w2) := P2; have q0 := P2.keeps.cell c0 hne1; have q1 := P2.keeps.cell c1 hne1; have q2 := P2.keeps.cell c2 hne1; have q3 := P2.keeps.cell c3 hne1; have q4 := P2.keeps.cell c4 hne1; have q5 := P2.keeps.cell c5 hne0; clear P2) | (go_at_call 44; (with_reducible refine (wNum_p P1.out d _ (wrapU d (by omega)) (by omega) (by (try simp only [List.length_append]); omega)).mono ?_); rintro x w2 ⟨rfl, P2⟩; have P1 : Hid (WrPost 64 b r _ _ w2) := P2; have q0 := P2.keeps.cell c0 hne1; have q1 := P2.keeps.cell c1 hne1; have q2 := P2.keeps.cell c2 hne1; have q3 := P2.keeps.cell c3 hne1; have q4 := P2.keeps.cell c4 hne1; have q5 := P2.keeps.cell c5 hne0; clear P2) | (go_at_call 44; (with_reducible refine (wNum_p P1.out e _ (wrapU e (by omega)) (by omega) (by (try simp only [List.length_append]); omega)).mono ?_); rintro x w2 ⟨rfl, P2⟩; have P1 : Hid (WrPost 64 b r _ _ w2) := P2; have q0 := P2.keeps.cell c0 hne1; have q1 := P2.keeps.cell c1 hne1; have q2 := P2.keeps.cell c2 hne1; have q3 := P2.keeps.cell c3 hne1; have q4 := P2.keeps.cell c4 hne1; have q5 := P2.keeps.cell c5 hne0; clear P2) | (go_at_call 96; (with_reducible refine (wFlag_p P1.out sv (by (try simp only [List.length_append]); omega)).mono ?_); rintro x w2 ⟨rfl, P2⟩; have P1 : Hid (WrPost 64 b r _ _ w2) := P2; have q0 := P2.keeps.cell c0 hne1; have q1 := P2.keeps.cell c1 hne1; have q2 := P2.keeps.cell c2 hne1; have q3 := P2.keeps.cell c3 hne1; have q4 := P2.keeps.cell c4 hne1; have q5 := P2.keeps.cell c5 hne0; clear P2))
  clear c0 c1 c2 c3 c4 c5
  go_wp2
  go_returns
  exact ⟨rfl, fin.out _ _ P1.out⟩

end Go.Proofs.Ytfpdfjbooalgjaa
