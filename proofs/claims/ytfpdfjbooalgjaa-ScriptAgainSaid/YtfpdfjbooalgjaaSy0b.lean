
/- Reads of ops, plainly. -/
import Derived.Test.YtfpdfjbooalgjaaSy0
import Derived.Test.YtfpdfjbooalgjaaSx4
namespace Go.Proofs.Ytfpdfjbooalgjaa
open Go.RowKit
set_option linter.unusedVariables false
set_option linter.unusedSimpArgs false

theorem pair_inj {α β : Type} {a a' : α} {b b' : β} (h : (a, b) = (a', b')) : a = a' ∧ b = b' := by cases h; exact ⟨rfl, rfl⟩
theorem rd_kind {l : List UInt8} {k : Nat} {s1 : Option (List UInt8)} (q1 : rdInt 4 (some l) = (k, s1)) {o : GOp} (h : o.ok) (he : o.enc = l) : o.kind = k ∧ s1 = some o.tl := by
  have B := h.b
  have := B.kl; have := B.kh
  rw [← he, enc_tl h, rdInt_fwd (by omega) (by omega) (by omega)] at q1
  obtain ⟨h1, h2⟩ := pair_inj q1
  exact ⟨by omega, h2.symm⟩
theorem ofToNat {x : Int} {n : Nat} (h0 : 0 ≤ x) (h : x.toNat = n) : x = n := by omega
theorem rd_1 {l : List UInt8} {k a c d t m : Nat} {f : Bool} {s1 s2 s3 s4 s5 s6 s7 : Option (List UInt8)} (hk : (k : Int) = 1) (q1 : rdInt 4 (some l) = (k, s1)) (q2 : rdInt 1023 s1 = (a, s2)) (q3 : rdNum 2147483648 s2 = (c, s3)) (q4 : rdNum 2147483648 s3 = (d, s4)) (q5 : rdNum 2147483648 s4 = (t, s5)) (q6 : rdInt 15 s5 = (m, s6)) (q7 : rdFlag s6 = (f, s7)) :
    (s7 = some [] → GOp.enc ⟨k, ⟨a, c, d, t, m⟩, f, 0, 0, 0⟩ = l) ∧ (∀ o : GOp, o.ok → o.enc = l → s7 = some [] ∧ o = ⟨k, ⟨a, c, d, t, m⟩, f, 0, 0, 0⟩) := by
  refine ⟨fun he => ?_, fun o ho he => ?_⟩
  · subst he
    have h := rdFlag_bwd q7; subst h
    have h := rdInt_bwd q6; subst h
    have h := rdNum_bwd q5; subst h
    have h := rdNum_bwd q4; subst h
    have h := rdNum_bwd q3; subst h
    have h := rdInt_bwd q2; subst h
    have h := rdInt_bwd q1
    obtain rfl : k = 1 := by omega
    simp only [Option.some.injEq] at h
    rw [h]
    simp [GOp.enc]
  · obtain ⟨h1, rfl⟩ := rd_kind q1 ho he
    obtain ⟨kl, kh, il, ih, cl, ch, ml, mh, tidl, tidh, tcl, tch, tdl, tdh, ttl, tth, tml, tmh⟩ := ho.b
    have k1 : o.kind = 1 := by omega
    have ht : o.tl = encNum o.task.id.toNat ++ (encNum o.task.c.toNat ++ (encNum o.task.d.toNat ++ (encNum o.task.t.toNat ++ (encNum o.task.m.toNat ++ encFlag o.sv)))) := by simp [GOp.tl, k1]
    rw [ht, rdInt_fwd (by omega) (by omega) (by omega)] at q2
    obtain ⟨e2, rfl⟩ := pair_inj q2
    rw [rdNum_fwd (by omega) (by omega)] at q3
    obtain ⟨e3, rfl⟩ := pair_inj q3
    rw [rdNum_fwd (by omega) (by omega)] at q4
    obtain ⟨e4, rfl⟩ := pair_inj q4
    rw [rdNum_fwd (by omega) (by omega)] at q5
    obtain ⟨e5, rfl⟩ := pair_inj q5
    rw [rdInt_fwd (by omega) (by omega) (by omega)] at q6
    obtain ⟨e6, rfl⟩ := pair_inj q6
    rw [← List.append_nil (encFlag o.sv), rdFlag_fwd] at q7
    obtain ⟨e7, rfl⟩ := pair_inj q7
    refine ⟨rfl, ?_⟩
    have hb := ho.1
    simp only [GOp.bare, k1, if_true] at hb
    refine hb.trans ?_
    rw [GOp.mk.injEq]
    refine ⟨by omega, ?_, e7, rfl, rfl, rfl⟩
    rw [show o.task = ⟨o.task.id, o.task.c, o.task.d, o.task.t, o.task.m⟩ from rfl, GTask.mk.injEq]
    exact ⟨ofToNat tidl e2, ofToNat tcl e3, ofToNat tdl e4, ofToNat ttl e5, ofToNat tml e6⟩
theorem rd_2 {l : List UInt8} {k a : Nat} {s1 s2 : Option (List UInt8)} (hk : (k : Int) = 2) (q1 : rdInt 4 (some l) = (k, s1)) (q2 : rdInt 1023 s1 = (a, s2)) :
    (s2 = some [] → GOp.enc ⟨k, ⟨0, 0, 0, 0, 0⟩, false, a, 0, 0⟩ = l) ∧ (∀ o : GOp, o.ok → o.enc = l → s2 = some [] ∧ o = ⟨k, ⟨0, 0, 0, 0, 0⟩, false, a, 0, 0⟩) := by
  refine ⟨fun he => ?_, fun o ho he => ?_⟩
  · subst he
    have h := rdInt_bwd q2; subst h
    have h := rdInt_bwd q1
    obtain rfl : k = 2 := by omega
    simp only [Option.some.injEq] at h
    rw [h]
    simp [GOp.enc]
  · obtain ⟨h1, rfl⟩ := rd_kind q1 ho he
    obtain ⟨kl, kh, il, ih, cl, ch, ml, mh, tidl, tidh, tcl, tch, tdl, tdh, ttl, tth, tml, tmh⟩ := ho.b
    have k1 : o.kind = 2 := by omega
    have ht : o.tl = encNum o.id.toNat ++ [] := by simp [GOp.tl, k1]
    rw [ht, rdInt_fwd (by omega) (by omega) (by omega)] at q2
    obtain ⟨e2, rfl⟩ := pair_inj q2
    refine ⟨rfl, ?_⟩
    have hb := ho.1
    simp [GOp.bare, k1] at hb
    rw [hb, ofToNat il e2, ← h1, k1]
theorem rd_3 {l : List UInt8} {k a c : Nat} {s1 s2 s3 : Option (List UInt8)} (hk : (k : Int) = 3) (q1 : rdInt 4 (some l) = (k, s1)) (q2 : rdInt 1023 s1 = (a, s2)) (q3 : rdNum 2147483648 s2 = (c, s3)) :
    (s3 = some [] → GOp.enc ⟨k, ⟨0, 0, 0, 0, 0⟩, false, a, c, 0⟩ = l) ∧ (∀ o : GOp, o.ok → o.enc = l → s3 = some [] ∧ o = ⟨k, ⟨0, 0, 0, 0, 0⟩, false, a, c, 0⟩) := by
  refine ⟨fun he => ?_, fun o ho he => ?_⟩
  · subst he
    have h := rdNum_bwd q3; subst h
    have h := rdInt_bwd q2; subst h
    have h := rdInt_bwd q1
    obtain rfl : k = 3 := by omega
    simp only [Option.some.injEq] at h
    rw [h]
    simp [GOp.enc]
  · obtain ⟨h1, rfl⟩ := rd_kind q1 ho he
    obtain ⟨kl, kh, il, ih, cl, ch, ml, mh, tidl, tidh, tcl, tch, tdl, tdh, ttl, tth, tml, tmh⟩ := ho.b
    have k1 : o.kind = 3 := by omega
    have ht : o.tl = encNum o.id.toNat ++ (encNum o.c.toNat ++ []) := by simp [GOp.tl, k1]
    rw [ht, rdInt_fwd (by omega) (by omega) (by omega)] at q2
    obtain ⟨e2, rfl⟩ := pair_inj q2
    rw [rdNum_fwd (by omega) (by omega)] at q3
    obtain ⟨e3, rfl⟩ := pair_inj q3
    refine ⟨rfl, ?_⟩
    have hb := ho.1
    simp [GOp.bare, k1] at hb
    rw [hb, ofToNat il e2, ofToNat cl e3, ← h1, k1]
theorem rd_4 {l : List UInt8} {k a : Nat} {s1 s2 : Option (List UInt8)} (hk : (k : Int) = 4) (q1 : rdInt 4 (some l) = (k, s1)) (q2 : rdInt 3 s1 = (a, s2)) :
    (s2 = some [] → GOp.enc ⟨k, ⟨0, 0, 0, 0, 0⟩, false, 0, 0, a⟩ = l) ∧ (∀ o : GOp, o.ok → o.enc = l → s2 = some [] ∧ o = ⟨k, ⟨0, 0, 0, 0, 0⟩, false, 0, 0, a⟩) := by
  refine ⟨fun he => ?_, fun o ho he => ?_⟩
  · subst he
    have h := rdInt_bwd q2; subst h
    have h := rdInt_bwd q1
    obtain rfl : k = 4 := by omega
    simp only [Option.some.injEq] at h
    rw [h]
    simp [GOp.enc]
  · obtain ⟨h1, rfl⟩ := rd_kind q1 ho he
    obtain ⟨kl, kh, il, ih, cl, ch, ml, mh, tidl, tidh, tcl, tch, tdl, tdh, ttl, tth, tml, tmh⟩ := ho.b
    have k1 : o.kind = 4 := by omega
    have ht : o.tl = encNum o.m.toNat ++ [] := by simp [GOp.tl, k1]
    rw [ht, rdInt_fwd (by omega) (by omega) (by omega)] at q2
    obtain ⟨e2, rfl⟩ := pair_inj q2
    refine ⟨rfl, ?_⟩
    have hb := ho.1
    simp [GOp.bare, k1] at hb
    rw [hb, ofToNat ml e2, ← h1, k1]
theorem rd_5 {l : List UInt8} {k : Nat} {s1 : Option (List UInt8)} (h1 : (k : Int) ≠ 1) (h2 : (k : Int) ≠ 2) (h3 : (k : Int) ≠ 3) (h4 : (k : Int) ≠ 4) (q1 : rdInt 4 (some l) = (k, s1)) : ∀ o : GOp, o.ok → o.enc = l → False := fun o ho he => by
  obtain ⟨hk, _⟩ := rd_kind q1 ho he
  have B := ho.b
  have := B.kl; have := B.kh
  omega
theorem op_res {r r' : Option GOp} (h : r = r') : Ending.returned (opRes r) = .returned (opRes r') := by rw [h]

def opVal (r : Option GOp) : GOp := r.getD GOp.zero
def opErr (r : Option GOp) : Int := if r.isSome then 0 else 10
theorem opRes_eq (r : Option GOp) : opRes r = .tuple #[(opVal r).val, .int .i64 (opErr r)] := by cases r <;> rfl
theorem enc_prefix {o p : GOp} (ho : o.ok) (hp : p.ok) {t : List UInt8} (h : p.enc = o.enc ++ t) : t = [] := by
  have B := ho.b; have B' := hp.b
  rw [enc_tl ho, enc_tl hp, List.append_assoc] at h
  obtain ⟨hk, h⟩ := encNum_inj (by have := B'.kh; omega) (by have := B.kh; omega) h
  have hk : o.kind = p.kind := by have := B.kl; have := B'.kl; omega
  obtain ⟨⟨kl, kh, il, ih, cl, ch, ml, mh, tidl, tidh, tcl, tch, tdl, tdh, ttl, tth, tml, tmh⟩, ⟨kl', kh', il', ih', cl', ch', ml', mh', tidl', tidh', tcl', tch', tdl', tdh', ttl', tth', tml', tmh'⟩⟩ := And.intro B B'
  unfold GOp.tl at h
  by_cases k1 : p.kind = 1
  · simp only [k1, hk, if_true, List.append_assoc] at h
    obtain ⟨h1, h⟩ := encNum_inj (by omega) (by omega) h
    obtain ⟨h2, h⟩ := encNum_inj (by omega) (by omega) h
    obtain ⟨h3, h⟩ := encNum_inj (by omega) (by omega) h
    obtain ⟨h4, h⟩ := encNum_inj (by omega) (by omega) h
    obtain ⟨h5, h⟩ := encNum_inj (by omega) (by omega) h
    unfold encFlag at h
    rw [← List.append_nil (encNum (if p.sv = true then 1 else 0))] at h
    exact (encNum_inj (by split <;> decide) (by split <;> decide) h).2.symm
  by_cases k2 : p.kind = 2
  · simp [k2, hk] at h
    rw [← List.append_nil (encNum p.id.toNat)] at h
    exact (encNum_inj (by omega) (by omega) h).2.symm
  by_cases k3 : p.kind = 3
  · simp [k3, hk] at h
    obtain ⟨h1, h⟩ := encNum_inj (by omega) (by omega) h
    rw [← List.append_nil (encNum p.c.toNat)] at h
    exact (encNum_inj (by omega) (by omega) h).2.symm
  · have k4 : p.kind = 4 := by omega
    simp [k4, hk] at h
    rw [← List.append_nil (encNum p.m.toNat)] at h
    exact (encNum_inj (by omega) (by omega) h).2.symm
theorem opOf_more {o : GOp} (ho : o.ok) (c : UInt8) : opOf (o.enc ++ [c]) = none := opOf_none fun p hp he => by
  have := enc_prefix ho hp he; simp at this
theorem enc_len43 {o : GOp} (ho : o.ok) : o.enc.length ≤ 43 := by
  obtain ⟨kl, kh, il, ih, cl, ch, ml, mh, tidl, tidh, tcl, tch, tdl, tdh, ttl, tth, tml, tmh⟩ := ho.b
  have L : ∀ n k, n < 256 ^ k → (encNum n).length ≤ k + 1 := fun n k h => by
    have := beb_len_le n k h
    simp only [encNum, List.length_cons]; omega
  unfold GOp.enc
  have h1 := L 1 1 (by decide)
  have h2 := L 2 1 (by decide)
  have h3 := L 3 1 (by decide)
  have h4 := L 4 1 (by decide)
  have h5 := L o.task.id.toNat 2 (by omega)
  have h6 := L o.task.c.toNat 4 (by omega)
  have h7 := L o.task.d.toNat 4 (by omega)
  have h8 := L o.task.t.toNat 4 (by omega)
  have h9 := L o.task.m.toNat 1 (by omega)
  have ha := L o.id.toNat 2 (by omega)
  have hb := L o.c.toNat 4 (by omega)
  have hc := L o.m.toNat 1 (by omega)
  have hd := encFlag_len o.sv
  split
  · simp only [List.length_append]; omega
  split
  · simp only [List.length_append]; omega
  split
  · simp only [List.length_append]; omega
  · simp only [List.length_append]; omega

end Go.Proofs.Ytfpdfjbooalgjaa
