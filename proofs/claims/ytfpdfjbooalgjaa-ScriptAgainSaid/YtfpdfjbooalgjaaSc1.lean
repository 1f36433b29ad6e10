
/- A command is read, plainly. -/
import Derived.Test.YtfpdfjbooalgjaaSc0
import Derived.Test.YtfpdfjbooalgjaaSy0b
import Derived.Test.YtfpdfjbooalgjaaRef3d
namespace Go.Proofs.Ytfpdfjbooalgjaa
open Go.RowKit
set_option linter.unusedVariables false
set_option linter.unusedSimpArgs false

theorem rdText_fwd {m : Int} {l : List UInt8} (hm : (l.length : Int) ≤ m) (h : l.length < 18446744073709551616) (t : List UInt8) : rdText m (some (encText l ++ t)) = (l, some t) := by
  have h1 : rdInt m (some (encText l ++ t)) = (l.length, some (l ++ t)) := by
    rw [encText, List.append_assoc]; exact rdInt_fwd (by omega) hm h
  rw [rdText, h1]
  simp
theorem rdText_bwd {m : Int} {x : List UInt8} {st : Option (List UInt8)} {t : List UInt8} (h : rdText m st = (x, some t)) : st = some (encText x ++ t) := by
  unfold rdText at h
  generalize hr : rdInt m st = r at h
  obtain ⟨n, s⟩ := r
  cases s with
  | none => simp at h
  | some l =>
    simp only at h
    split at h
    · rename_i hn
      simp only [Prod.mk.injEq, Option.some.injEq] at h
      obtain ⟨rfl, rfl⟩ := h
      rw [rdInt_bwd hr, encText]
      congr 1
      rw [List.length_take, Nat.min_eq_left hn, List.append_assoc, List.take_append_drop]
    · simp at h

def rdFate (s : Option (List UInt8)) : GFate × Option (List UInt8) := (⟨((rdInt 2 s).1 : Nat), ((rdInt 64 (rdInt 2 s).2).1 : Nat)⟩, (rdInt 64 (rdInt 2 s).2).2)
section
variable {l : List UInt8} {s s0 s1 s2 s3 s' : Option (List UInt8)} {a b k n : Nat} {f : GFate} {t : List UInt8} {done : List GFate} {i : Int}
theorem rdFate_eq (q1 : rdInt 2 s = (a, s1)) (q2 : rdInt 64 s1 = (b, s2)) : rdFate s = (⟨a, b⟩, s2) := by simp only [rdFate, q1, q2]
theorem rdFate_bwd (h : rdFate s = (f, some t)) : s = some (encFate f ++ t) ∧ f.ok := by
  simp only [rdFate, Prod.mk.injEq] at h
  obtain ⟨rfl, h2⟩ := h
  have e2 := rdInt_bwd (Prod.ext rfl h2)
  have e1 := rdInt_bwd (Prod.ext rfl e2)
  have l1 := rdInt_le 2 s
  have l2 := rdInt_le 64 (rdInt 2 s).2
  refine ⟨e1.trans ?_, ?_⟩
  · simp only [encFate, Int.toNat_natCast, List.append_assoc]
  · simp only [GFate.ok]; omega
theorem rdFate_fwd (h : f.ok) : rdFate (some (encFate f ++ t)) = (f, some t) := by
  obtain ⟨h0, h1, h2, h3⟩ := h
  have e1 : rdInt 2 (some (encFate f ++ t)) = (f.kind.toNat, some (encNum f.at_.toNat ++ t)) := by
    rw [encFate, List.append_assoc]; exact rdInt_fwd (by omega) (by omega) (by omega)
  have e2 : rdInt 64 (some (encNum f.at_.toNat ++ t)) = (f.at_.toNat, some t) := rdInt_fwd (by omega) (by omega) (by omega)
  rw [rdFate_eq e1 e2]
  obtain ⟨fk, fa⟩ := f
  simp only at *
  rw [Prod.mk.injEq, GFate.mk.injEq]; exact ⟨⟨by omega, by omega⟩, rfl⟩
def rdFs : Nat → Option (List UInt8) → List GFate × Option (List UInt8)
  | 0, s => ([], s)
  | k + 1, s => ((rdFate s).1 :: (rdFs k (rdFate s).2).1, (rdFs k (rdFate s).2).2)
theorem rdFs_none : ∀ k, (rdFs k none).2 = none
  | 0 => rfl
  | k + 1 => by rw [rdFs]; exact rdFs_none k
theorem rdFs_bwd : ∀ {k : Nat} {s : Option (List UInt8)} {fs : List GFate} {t : List UInt8}, rdFs k s = (fs, some t) → s = some (fs.flatMap encFate ++ t) ∧ fs.length = k ∧ ∀ f ∈ fs, f.ok
  | 0, s, fs, t, h => by
    simp only [rdFs, Prod.mk.injEq] at h
    obtain ⟨rfl, h⟩ := h
    exact ⟨by simpa using h, rfl, by simp⟩
  | k + 1, s, fs, t, h => by
    simp only [rdFs, Prod.mk.injEq] at h
    obtain ⟨rfl, h⟩ := h
    obtain ⟨h1, h2, h4⟩ := rdFs_bwd (k := k) (s := (rdFate s).2) (fs := (rdFs k (rdFate s).2).1) (t := t) (Prod.ext rfl h)
    obtain ⟨h3, h5⟩ := rdFate_bwd (s := s) (f := (rdFate s).1) (Prod.ext rfl h1)
    refine ⟨?_, by rw [List.length_cons, h2], ?_⟩
    · refine h3.trans ?_
      simp
    · intro f hf
      rcases List.mem_cons.1 hf with rfl | hf
      · exact h5
      · exact h4 f hf
theorem rdFs_fwd : ∀ {fs : List GFate} {t : List UInt8}, (∀ f ∈ fs, f.ok) → rdFs fs.length (some (fs.flatMap encFate ++ t)) = (fs, some t)
  | [], t, _ => by simp [rdFs]
  | f :: fs, t, h => by
    rw [List.length_cons, rdFs, List.flatMap_cons, List.append_assoc, rdFate_fwd (h f (List.mem_cons_self ..)), rdFs_fwd (fun g hg => h g (List.mem_cons_of_mem _ hg))]
def fsI (n : Nat) (s0 : Option (List UInt8)) (i : Int) (done : List GFate) (s : Option (List UInt8)) : Prop := rdFs n s0 = (done ++ (rdFs (n - i.toNat) s).1, (rdFs (n - i.toNat) s).2)
theorem fsI_zero (n : Nat) (s : Option (List UInt8)) : fsI n s 0 [] s := by simp [fsI]
theorem fsI_succ (h0 : 0 ≤ i) (h1 : i < n) (h : fsI n s0 i done s) (hr : rdFate s = (f, s')) : fsI n s0 (i + 1) (done ++ [f]) s' := by
  unfold fsI at *
  rw [h, show n - i.toNat = (n - (i + 1).toNat) + 1 by omega, rdFs, hr]
  simp
theorem fsI_end (h : fsI n s0 i done s) (h1 : (n : Int) ≤ i) : rdFs n s0 = (done, s) := by
  unfold fsI at h
  rw [h, show n - i.toNat = 0 by omega, rdFs]; simp
theorem fsI_bad (h : fsI n s0 i done s) (hs : s.isSome = false) : (rdFs n s0).2 = none := by
  unfold fsI at h
  cases s with
  | none => rw [h]; exact rdFs_none _
  | some l => simp at hs

/-- What was read: a command, if `g`; else there is none. -/
def Got (l : List UInt8) (c : PCmd) (st : Option (List UInt8)) (g : Prop) : Prop := (g → ∃ t, st = some t ∧ c.ok ∧ l = c.enc ++ t) ∧ (∀ d t, PCmd.ok d → l = d.enc ++ t → g)
theorem ck_kind (q0 : rdInt 9 (some l) = (k, s1)) {d : PCmd} (hd : d.ok) (he : l = d.enc ++ t) : d.kind = k ∧ s1 = some (d.tl ++ t) := by
  obtain ⟨_, ⟨k1, k9, _⟩, _⟩ := hd
  rw [he, PCmd.enc, List.append_assoc, rdInt_fwd (by omega) (by omega) (by omega)] at q0
  obtain ⟨h1, h2⟩ := pair_inj q0
  exact ⟨by omega, h2.symm⟩
theorem ck_0 (q0 : rdInt 9 (some l) = (k, s1)) (hk : (k : Int) ≤ 0) (c : PCmd) (st : Option (List UInt8)) : Got l c st False :=
  ⟨False.elim, fun d t hd he => by have h := (ck_kind q0 hd he).1; have := hd.2.1.1; omega⟩
theorem opErr_ok {x : List UInt8} (h : opErr (opOf x) = 0) : (opVal (opOf x)).ok ∧ (opVal (opOf x)).enc = x := by
  unfold opErr at h
  split at h
  · rename_i hs
    obtain ⟨o, ho⟩ := Option.isSome_iff_exists.1 hs
    have := opOf_iff.1 ho
    rw [ho]; exact this
  · simp at h
theorem zero_enc_len {x : List UInt8} (h : opErr (opOf x) = 0) : x.length ≤ 43 := by
  obtain ⟨h1, h2⟩ := opErr_ok h
  rw [← h2]; exact enc_len43 h1
theorem ck_1 {x : List UInt8} (hk : (k : Int) = 1) (q0 : rdInt 9 (some l) = (k, s1)) (q1 : rdText 43 s1 = (x, s2)) : Got l ⟨k, opVal (opOf x), 0, 0, 0, []⟩ s2 (s2.isSome = true ∧ opErr (opOf x) = 0) := by
  obtain rfl : k = 1 := by omega
  refine ⟨fun ⟨hs, ho⟩ => ?_, fun d t hd he => ?_⟩
  · obtain ⟨t, rfl⟩ := Option.isSome_iff_exists.1 hs
    obtain ⟨o1, o2⟩ := opErr_ok ho
    have e1 := rdText_bwd q1
    subst e1
    have e0 := rdInt_bwd q0
    simp only [Option.some.injEq] at e0
    refine ⟨t, rfl, ⟨by simp [PCmd.bare], by simp [PCmd.rngs], by simp, fun _ => o1⟩, ?_⟩
    rw [e0]; simp [PCmd.enc, PCmd.tl, o2]
  · obtain ⟨h1, rfl⟩ := ck_kind q0 hd he
    obtain ⟨hb, hr, hf, ho⟩ := hd
    have b1 := enc_len43 (ho h1)
    rw [show d.tl = encText d.op.enc by simp [PCmd.tl, h1], rdText_fwd (by omega) (by omega)] at q1
    obtain ⟨rfl, rfl⟩ := pair_inj q1
    refine ⟨rfl, ?_⟩
    rw [opOf_some (ho h1) rfl]; rfl
theorem ck_2 {x y : Nat} (hk : (k : Int) = 2 ∨ (k : Int) = 3) (q0 : rdInt 9 (some l) = (k, s1)) (q1 : rdInt 1023 s1 = (x, s2)) (q2 : rdNum 2147483648 s2 = (y, s3)) : Got l ⟨k, GOp.zero, x, y, 0, []⟩ s3 (s3.isSome = true) := by
  refine ⟨fun hs => ?_, fun d t hd he => ?_⟩
  · obtain ⟨t, rfl⟩ := Option.isSome_iff_exists.1 hs
    have l1 := rdInt_le 1023 s1
    have l2 := rdNum_le 2147483648 s2
    rw [q1] at l1; rw [q2] at l2
    have e2 := rdNum_bwd q2
    subst e2
    have e1 := rdInt_bwd q1
    subst e1
    have e0 := rdInt_bwd q0
    simp only [Option.some.injEq] at e0
    simp only at l1 l2
    refine ⟨t, rfl, ⟨by simp [PCmd.bare, hk]; omega, by simp only [PCmd.rngs, List.length_nil]; omega, by simp, fun h => by simp only at h; omega⟩, ?_⟩
    rw [e0, PCmd.enc, PCmd.tl, if_neg (by simp only; omega), if_pos (by simpa using hk)]; simp
  · obtain ⟨h1, rfl⟩ := ck_kind q0 hd he
    obtain ⟨hb, ⟨k1, k9, i0, i1, w0, w1, n0, n1, fl⟩, hf, ho⟩ := hd
    rw [show d.tl = encNum d.id.toNat ++ encNum d.work.toNat by rw [PCmd.tl, if_neg (by omega), if_pos (by omega)], List.append_assoc, rdInt_fwd (by omega) (by omega) (by omega)] at q1
    obtain ⟨e1, rfl⟩ := pair_inj q1
    rw [rdNum_fwd (by omega) (by omega)] at q2
    obtain ⟨e2, rfl⟩ := pair_inj q2
    rfl
theorem ck_4 {x : Nat} (hk : (k : Int) = 4 ∨ (k : Int) = 7) (q0 : rdInt 9 (some l) = (k, s1)) (q1 : rdInt 1048576 s1 = (x, s2)) : Got l ⟨k, GOp.zero, 0, 0, x, []⟩ s2 (s2.isSome = true) := by
  refine ⟨fun hs => ?_, fun d t hd he => ?_⟩
  · obtain ⟨t, rfl⟩ := Option.isSome_iff_exists.1 hs
    have l1 := rdInt_le 1048576 s1
    rw [q1] at l1
    have e1 := rdInt_bwd q1
    subst e1
    have e0 := rdInt_bwd q0
    simp only [Option.some.injEq] at e0
    simp only at l1
    refine ⟨t, rfl, ⟨?_, by simp only [PCmd.rngs, List.length_nil]; omega, by simp, fun h => by simp only at h; omega⟩, ?_⟩
    · rw [PCmd.bare, if_neg (by simp only; omega), if_neg (by simp only; omega), if_pos (by simpa using hk)]
    · rw [e0, PCmd.enc, PCmd.tl, if_neg (by simp only; omega), if_neg (by simp only; omega), if_pos (by simpa using hk)]; simp
  · obtain ⟨h1, rfl⟩ := ck_kind q0 hd he
    obtain ⟨hb, ⟨k1, k9, i0, i1, w0, w1, n0, n1, fl⟩, hf, ho⟩ := hd
    rw [show d.tl = encNum d.n.toNat by rw [PCmd.tl, if_neg (by omega), if_neg (by omega), if_pos (by omega)], rdInt_fwd (by omega) (by omega) (by omega)] at q1
    obtain ⟨e1, rfl⟩ := pair_inj q1
    rfl
theorem ck_5 {x : Nat} (hk : (k : Int) = 5) (q0 : rdInt 9 (some l) = (k, s1)) (q1 : rdInt 1023 s1 = (x, s2)) : Got l ⟨k, GOp.zero, x, 0, 0, []⟩ s2 (s2.isSome = true) := by
  obtain rfl : k = 5 := by omega
  refine ⟨fun hs => ?_, fun d t hd he => ?_⟩
  · obtain ⟨t, rfl⟩ := Option.isSome_iff_exists.1 hs
    have l1 := rdInt_le 1023 s1
    rw [q1] at l1
    have e1 := rdInt_bwd q1
    subst e1
    have e0 := rdInt_bwd q0
    simp only [Option.some.injEq] at e0
    simp only at l1
    refine ⟨t, rfl, ⟨by simp [PCmd.bare], by simp only [PCmd.rngs, List.length_nil]; omega, by simp, fun h => by simp at h⟩, ?_⟩
    rw [e0]; simp [PCmd.enc, PCmd.tl]
  · obtain ⟨h1, rfl⟩ := ck_kind q0 hd he
    obtain ⟨hb, ⟨k1, k9, i0, i1, w0, w1, n0, n1, fl⟩, hf, ho⟩ := hd
    rw [show d.tl = encNum d.id.toNat by rw [PCmd.tl, if_neg (by omega), if_neg (by omega), if_neg (by omega), if_pos (by omega)], rdInt_fwd (by omega) (by omega) (by omega)] at q1
    obtain ⟨e1, rfl⟩ := pair_inj q1
    rfl
theorem ck_6 (h0 : (k : Int) ≠ 0) (h1 : (k : Int) ≠ 1) (h2 : (k : Int) ≠ 2) (h3 : (k : Int) ≠ 3) (h4 : (k : Int) ≠ 4) (h5 : (k : Int) ≠ 5) (h7 : (k : Int) ≠ 7) (h8 : (k : Int) ≠ 8) (q0 : rdInt 9 (some l) = (k, s1)) : Got l ⟨k, GOp.zero, 0, 0, 0, []⟩ s1 (s1.isSome = true) := by
  refine ⟨fun hs => ?_, fun d t hd he => ?_⟩
  · obtain ⟨t, rfl⟩ := Option.isSome_iff_exists.1 hs
    have l0 := rdInt_le 9 (some l)
    rw [q0] at l0
    have e0 := rdInt_bwd q0
    simp only [Option.some.injEq] at e0
    simp only at l0
    refine ⟨t, rfl, ⟨?_, by simp only [PCmd.rngs, List.length_nil]; omega, by simp, fun h => by simp only at h; omega⟩, ?_⟩
    · rw [PCmd.bare, if_neg (by simp only; omega), if_neg (by simp only; omega), if_neg (by simp only; omega), if_neg (by simp only; omega), if_neg (by simp only; omega)]
    · rw [e0, PCmd.enc, PCmd.tl, if_neg (by simp only; omega), if_neg (by simp only; omega), if_neg (by simp only; omega), if_neg (by simp only; omega), if_neg (by simp only; omega)]; simp
  · obtain ⟨_, rfl⟩ := ck_kind q0 hd he
    rfl
theorem ck_8 (hk : (k : Int) = 8) (q0 : rdInt 9 (some l) = (k, s1)) (q1 : rdInt 64 s1 = (n, s2)) (h : fsI n s2 i done s) (h1 : (n : Int) ≤ i) : Got l ⟨k, GOp.zero, 0, 0, 0, done⟩ s (s.isSome = true) := by
  have hr := fsI_end h h1
  obtain rfl : k = 8 := by omega
  refine ⟨fun hs => ?_, fun d t hd he => ?_⟩
  · obtain ⟨t, rfl⟩ := Option.isSome_iff_exists.1 hs
    have l1 := rdInt_le 64 s1
    rw [q1] at l1
    obtain ⟨e2, e3, e4⟩ := rdFs_bwd hr
    subst e2
    have e1 := rdInt_bwd q1
    subst e1
    have e0 := rdInt_bwd q0
    simp only [Option.some.injEq] at e0
    simp only at l1
    refine ⟨t, rfl, ⟨by simp [PCmd.bare], by simp only [PCmd.rngs]; omega, e4, fun h => by simp at h⟩, ?_⟩
    rw [e0]; simp [PCmd.enc, PCmd.tl, e3]
  · obtain ⟨h1, rfl⟩ := ck_kind q0 hd he
    obtain ⟨hb, ⟨k1, k9, i0, i1, w0, w1, n0, n1, fl⟩, hf, ho⟩ := hd
    rw [show d.tl = encNum d.fs.length ++ d.fs.flatMap encFate by rw [PCmd.tl, if_neg (by omega), if_neg (by omega), if_neg (by omega), if_neg (by omega), if_pos (by omega)], List.append_assoc, rdInt_fwd (by omega) (by omega) (by omega)] at q1
    obtain ⟨rfl, rfl⟩ := pair_inj q1
    rw [rdFs_fwd hf] at hr
    obtain ⟨_, rfl⟩ := pair_inj hr
    rfl
theorem ck_8x (hk : (k : Int) = 8) (q0 : rdInt 9 (some l) = (k, s1)) (q1 : rdInt 64 s1 = (n, s2)) (h : fsI n s2 i done s) (hs : s.isSome = false) (c : PCmd) (st : Option (List UInt8)) : Got l c st False := by
  have hr := fsI_bad h hs
  obtain rfl : k = 8 := by omega
  refine ⟨False.elim, fun d t hd he => ?_⟩
  obtain ⟨h1, rfl⟩ := ck_kind q0 hd he
  obtain ⟨hb, ⟨k1, k9, i0, i1, w0, w1, n0, n1, fl⟩, hf, ho⟩ := hd
  rw [show d.tl = encNum d.fs.length ++ d.fs.flatMap encFate by rw [PCmd.tl, if_neg (by omega), if_neg (by omega), if_neg (by omega), if_neg (by omega), if_pos (by omega)], List.append_assoc, rdInt_fwd (by omega) (by omega) (by omega)] at q1
  obtain ⟨rfl, rfl⟩ := pair_inj q1
  rw [rdFs_fwd hf] at hr
  simp at hr
end

section
variable {l : List UInt8} {s1 s2 s3 st : Option (List UInt8)} {k : Nat} {c : PCmd} {g g' : Prop}
theorem Got.iff (h : Got l c st g) (e : g ↔ g') : Got l c st g' := ⟨fun x => h.1 (e.2 x), fun d t hd he => e.1 (h.2 d t hd he)⟩
theorem Got.t (h : Got l c st g) (x : g) : Got l c st (true = true) := h.iff ⟨fun _ => rfl, fun _ => x⟩
theorem Got.yes (h : Got l c st g) (x : g) : Got l c st (true = true) := h.t x
theorem Got.f (h : Got l c st g) (x : ¬ g) : Got l c st (false = true) := h.iff ⟨fun y => absurd y x, fun y => by cases y⟩
theorem Got.f' {c' : PCmd} {st' : Option (List UInt8)} (h : Got l c st g) (x : ¬ g) : Got l c' st' (false = true) := ⟨fun y => (by cases y), fun d t hd he => absurd (h.2 d t hd he) x⟩
theorem Got.z {c' : PCmd} {st' : Option (List UInt8)} (h : Got l c st g) (x : ¬ g) (hk : c'.kind = 0) : Got l c' st' (c'.kind ≠ 0) := ⟨fun y => absurd hk y, fun d t hd he => absurd (h.2 d t hd he) x⟩
theorem Got.kd (h : Got l c st g) (x : g) (hk : c.kind ≠ 0) : Got l c st (c.kind ≠ 0) := h.iff ⟨fun _ => hk, fun _ => x⟩
theorem ck_6' (h1 : (k : Int) ≠ 1) (h2 : (k : Int) ≠ 2) (h3 : (k : Int) ≠ 3) (h4 : (k : Int) ≠ 4) (h5 : (k : Int) ≠ 5) (h7 : (k : Int) ≠ 7) (h8 : (k : Int) ≠ 8) (q0 : rdInt 9 (some l) = (k, s1)) : Got l ⟨k, GOp.zero, 0, 0, 0, []⟩ s1 (s1.isSome = true ∧ (k : Int) > 0) := by
  by_cases h0 : (k : Int) = 0
  · exact (ck_0 q0 (by omega) _ _).iff ⟨False.elim, fun h => by omega⟩
  · exact (ck_6 h0 h1 h2 h3 h4 h5 h7 h8 q0).iff ⟨fun h => ⟨h, by omega⟩, fun h => h.1⟩
theorem rdText_le {m : Int} {x : List UInt8} {s : Option (List UInt8)} (q : rdText m st = (x, s)) : x.length ≤ m.toNat := by
  unfold rdText at q
  have hle := rdInt_le m st
  generalize rdInt m st = r at q hle
  obtain ⟨n, s'⟩ := r
  cases s' with
  | none => obtain ⟨rfl, _⟩ := pair_inj q; simp
  | some l =>
    simp only at q hle
    split at q
    · obtain ⟨rfl, _⟩ := pair_inj q; rw [List.length_take]; omega
    · obtain ⟨rfl, _⟩ := pair_inj q; simp
theorem Got.fs (h : Got l c st g) (x : g) : c.fs.length ≤ 64 := by obtain ⟨t, _, ho, _⟩ := h.1 x; exact ho.2.1.2.2.2.2.2.2.2.2
end
theorem qText_x {w : World} {b : Nat} {st : Option (List UInt8)} (x : Int) (h : QrAt b st w) (hlen : stLen st ≤ 1000000000) (h0 : 0 ≤ x) (hm : x ≤ 9223372036854775807) : Calls Try.prog 58 #[.pointer (some ⟨b, 0, none⟩), .int .i64 x] w fun e w' => ∃ (n : List UInt8) (s : Option (List UInt8)), rdText x st = (n, s) ∧ e = .returned (.string ⟨n.toArray⟩) ∧ QrAt b s w' ∧ Keeps (fun k => k = b) w w' ∧ stLen s ≤ 1000000000 ∧ n.length ≤ 1000000000 := by
  obtain ⟨n, s, q, hl, hn⟩ := rdText_u x st
  refine (qText_any b st hlen x hm w h).mono fun e w' hh => ?_
  rw [q] at hh
  exact ⟨n, s, q, hh.1, hh.2.1, hh.2.2, Nat.le_trans hl hlen, by omega⟩
theorem rLeft_x {w : World} {b : Nat} {st : Option (List UInt8)} (h : RdAt b st w) (hlen : stLen st ≤ 1000000000) : Calls Try.prog 34 #[.pointer (some ⟨b, 0, none⟩)] w fun e w' => e = .returned (.int .i64 (stLen st : Int)) ∧ w = w' :=
  rLeft_any b st hlen w h

theorem nlink_up {S : Nat → Prop} {A A' : Option Addr} {w0 w : World} (K : Keeps S w0 w) (n : blk A' = blk A ∨ ∃ k, blk A' = some k ∧ w.heap.size ≤ k) : blk A' = blk A ∨ ∃ k, blk A' = some k ∧ w0.heap.size ≤ k := by
  rcases n with n | ⟨k, n, hk⟩
  · exact .inl n
  · exact .inr ⟨k, n, Nat.le_trans K.size hk⟩
section
variable {n : Nat} {xs : List GCmd} {w w' : World} {b : Nat} {st : Option (List UInt8)}
theorem FtsO.keepsT {cs : Array Value} {T : TypeId} {fz : Nat × Nat} (h : FtsO n xs w) (k : Keeps (fun i => i = b) w w') (hb : w.heap[b]? = some (.cells cs T fz)) (hT : T ≠ 50) : FtsO n xs w' := h.keeps k fun i cur hi e => by
  subst e; rw [hi] at hb; simp only [Option.some.injEq, Obj.cells.injEq] at hb; exact hT hb.2.1.symm
theorem FtsO.keepsR (h : FtsO n xs w) (k : Keeps (fun i => i = b) w w') (hb : RdAt b st w) : FtsO n xs w' := by
  cases st with
  | some l => exact h.keepsT k hb (by decide)
  | none => obtain ⟨s, hb⟩ := hb; exact h.keepsT k hb (by decide)
theorem FtsO.keepsQ (h : FtsO n xs w) (k : Keeps (fun i => i = b) w w') (hb : QrAt b st w) : FtsO n xs w' := by
  cases st with
  | some l => exact h.keepsT k hb (by decide)
  | none => obtain ⟨s, hb⟩ := hb; exact h.keepsT k hb (by decide)
theorem FtsO.keepsOw {α : Type} {cl : α → List Value} {m : Nat} {E : TypeId} {A : Option Addr} {cap : Nat} {ys : List α} (h : FtsO n xs w) (k : Keeps (fun i => blk A = some i) w w') (ho : OwAt cl m E A cap ys w) (hE : E ≠ 50) : FtsO n xs w' := h.keeps k fun i cur hi e => ho.offT hi (fun x => hE x.symm) e
end

/-! reading on and on -/
def Pre (l : List UInt8) (ps : List PCmd) (r : List UInt8) : Prop := (∀ c ∈ ps, c.ok) ∧ l = cencs ps ++ r
theorem Pre.nil (l : List UInt8) : Pre l [] l := ⟨by simp, by simp [cencs]⟩
theorem Pre.snoc {l r t : List UInt8} {ps : List PCmd} {c : PCmd} (h : Pre l ps r) (hc : c.ok) (e : r = c.enc ++ t) : Pre l (ps ++ [c]) t := by
  refine ⟨fun d hd => ?_, ?_⟩
  · rcases List.mem_append.1 hd with hd | hd
    · exact h.1 d hd
    · rw [List.mem_singleton.1 hd]; exact hc
  · rw [h.2, e]; simp [cencs]
theorem Pre.done {l r : List UInt8} {ps : List PCmd} (h : Pre l ps r) (hn : ∀ c t, PCmd.ok c → r = c.enc ++ t → False) : Parsed l ps r := ⟨h.1, h.2, hn⟩
theorem none_nil : ∀ c t, PCmd.ok c → ([] : List UInt8) = c.enc ++ t → False := fun c t hc e => by
  have := cenc_pos c
  have h2 := congrArg List.length e
  simp at h2; omega
def readEr (r : List UInt8) : Int := if r = [] then 0 else 10
def readAt (l r : List UInt8) : Int := ((l.length - r.length : Nat) : Int)
def ReadRes (l : List UInt8) (w : World) (mk : Value → Value → Value → Value) (e : Ending) (w' : World) : Prop :=
  ∃ xs A c r, e = .returned (mk (.slice A xs.length c) (.int .i64 (readAt l r)) (.int .i64 (readEr r))) ∧ OwAt cmdC 15 32 A c xs w' ∧ FtsO 64 xs w' ∧ Parsed l (xs.map GCmd.p) r ∧ Adds w w' ∧ (∀ i, blk A = some i → w.heap.size ≤ i)
/-- One command more. -/
def NextRes (l : List UInt8) (pt : Nat) (done : List GCmd) (is : Bool) (pt' : Nat) (done' : List GCmd) : Prop :=
  (is = true → pt' ≤ l.length ∧ pt < pt' ∧ ∃ c, done' = done ++ [c] ∧ c.p.ok ∧ l.drop pt = c.p.enc ++ l.drop pt') ∧ (is = false → done' = done ∧ pt' = pt ∧ ∀ c t, PCmd.ok c → l.drop pt = c.enc ++ t → False)
theorem next_t {l : List UInt8} {pt : Nat} {done : List GCmd} {c : GCmd} {st : Option (List UInt8)} {x : Int} (hat : pt ≤ l.length) (h : Got (l.drop pt) c.p st (true = true)) (hx : x = (l.length : Int) - (stLen st : Int)) : ∃ pt' : Nat, x = (pt' : Int) ∧ NextRes l pt done true pt' (done ++ [c]) := by
  obtain ⟨u, rfl, hc, he⟩ := h.1 rfl
  have h1 := congrArg List.length he
  have h2 := cenc_pos c.p
  rw [List.length_append, List.length_drop] at h1
  have h3 : l.drop (l.length - u.length) = u := by
    have e2 : l = l.take pt ++ (c.p.enc ++ u) := by rw [← he, List.take_append_drop]
    have e3 : l.length - u.length = (l.take pt ++ c.p.enc).length := by
      rw [List.length_append, List.length_take]; omega
    rw [e3]
    conv => lhs; arg 2; rw [e2, ← List.append_assoc]
    exact List.drop_left
  refine ⟨l.length - u.length, by rw [hx]; simp only [stLen]; omega, fun _ => ⟨by omega, by omega, c, rfl, hc, ?_⟩, fun h => by cases h⟩
  rw [h3]; exact he
theorem next_f {l : List UInt8} {pt : Nat} {done : List GCmd} {c : PCmd} {st : Option (List UInt8)} (h : Got (l.drop pt) c st (false = true)) : NextRes l pt done false pt done :=
  ⟨fun h => (by cases h), fun _ => ⟨rfl, rfl, fun d t hd he => by cases h.2 d t hd he⟩⟩

theorem readA_eq {l : List UInt8} {pt : Nat} (h : pt ≤ l.length) : ((pt : Nat) : Int) = readAt l (l.drop pt) := by unfold readAt; rw [List.length_drop]; omega
theorem readE_0 {l : List UInt8} {pt : Nat} (h : l.length ≤ pt) : (0 : Int) = readEr (l.drop pt) := by rw [List.drop_of_length_le h]; rfl
theorem readE_1 {l : List UInt8} {pt : Nat} (h : pt < l.length) : (10 : Int) = readEr (l.drop pt) := by
  unfold readEr; rw [if_neg]; intro e; have := congrArg List.length e; rw [List.length_drop] at this; simp at this; omega
section
variable {l : List UInt8} {pt : Nat} {w w' : World} {mk : Value → Value → Value → Value} {e : Ending} {xs : List GCmd} {A : Option Addr} {c : Nat}
theorem ReadRes.at0 (h1 : pt ≤ l.length) (h2 : l.length ≤ pt) (he : e = .returned (mk (.slice A xs.length c) (.int .i64 (pt : Int)) (.int .i64 0))) (ho : OwAt cmdC 15 32 A c xs w') (hF : FtsO 64 xs w') (hP : Parsed l (xs.map GCmd.p) (l.drop pt)) (k : Adds w w') (ol : ∀ i, blk A = some i → w.heap.size ≤ i) : ReadRes l w mk e w' :=
  ⟨xs, A, c, l.drop pt, by rw [← readA_eq h1, ← readE_0 h2]; exact he, ho, hF, hP, k, ol⟩
theorem ReadRes.at1 (h2 : pt < l.length) (he : e = .returned (mk (.slice A xs.length c) (.int .i64 (pt : Int)) (.int .i64 10))) (ho : OwAt cmdC 15 32 A c xs w') (hF : FtsO 64 xs w') (hP : Parsed l (xs.map GCmd.p) (l.drop pt)) (k : Adds w w') (ol : ∀ i, blk A = some i → w.heap.size ≤ i) : ReadRes l w mk e w' :=
  ⟨xs, A, c, l.drop pt, by rw [← readA_eq (Nat.le_of_lt h2), ← readE_1 h2]; exact he, ho, hF, hP, k, ol⟩
end
theorem none_end {l : List UInt8} {pt : Nat} (h : l.length ≤ pt) : ∀ c t, PCmd.ok c → l.drop pt = c.enc ++ t → False := by rw [List.drop_of_length_le h]; exact none_nil
theorem Pre.snocM {l r t : List UInt8} {done done' : List GCmd} {c : GCmd} (h : Pre l (done.map GCmd.p) r) (hc : c.p.ok) (e : r = c.p.enc ++ t) (ed : done' = done ++ [c]) : Pre l (done'.map GCmd.p) t := by
  rw [ed, List.map_append]; exact h.snoc hc e
theorem cmds_len : ∀ {ps : List PCmd}, ps.length ≤ (cencs ps).length
  | [] => by simp
  | c :: ps => by
    have h1 := cenc_pos c
    have h2 := cmds_len (ps := ps)
    simp only [cencs, List.flatMap_cons, List.length_append, List.length_cons] at *; omega
theorem Parsed.len {l r : List UInt8} {xs : List GCmd} (h : Parsed l (xs.map GCmd.p) r) : xs.length ≤ l.length ∧ r.length ≤ l.length := by
  have h1 := cmds_len (ps := xs.map GCmd.p)
  have h2 := congrArg List.length h.2.1
  rw [List.length_append] at h2; rw [List.length_map] at h1; omega
theorem Pre.len {l r : List UInt8} {done : List GCmd} (h : Pre l (done.map GCmd.p) r) : done.length ≤ l.length := by
  have h1 := cmds_len (ps := done.map GCmd.p)
  have h2 := congrArg List.length h.2
  rw [List.length_append] at h2; rw [List.length_map] at h1; omega

end Go.Proofs.Ytfpdfjbooalgjaa
