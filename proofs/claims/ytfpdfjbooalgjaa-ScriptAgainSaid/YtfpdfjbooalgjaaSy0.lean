
/- What the walks of ops lean on. -/
import Derived.Test.YtfpdfjbooalgjaaSx3
import Derived.Test.YtfpdfjbooalgjaaOp8
import Derived.Test.YtfpdfjbooalgjaaOp10
namespace Go.Proofs.Ytfpdfjbooalgjaa
open Go.RowKit
set_option linter.unusedVariables false
set_option linter.unusedSimpArgs false

theorem neqOp (k k' a a' b b' c c' d d' e e' i i' cc cc' m m' : Int) (sv sv' : Bool) (w : World) :
    (binOp .neq 29 (.agg #[.int .i64 k, .int .i64 a, .int .i64 b, .int .i64 c, .int .i64 d, .int .i64 e, .bool sv, .int .i64 i, .int .i64 cc, .int .i64 m]) (.agg #[.int .i64 k', .int .i64 a', .int .i64 b', .int .i64 c', .int .i64 d', .int .i64 e', .bool sv', .int .i64 i', .int .i64 cc', .int .i64 m'])).run Try.prog w = .ok (.bool (!(GOp.same ⟨k, ⟨a, b, c, d, e⟩, sv, i, cc, m⟩ ⟨k', ⟨a', b', c', d', e'⟩, sv', i', cc', m'⟩))) w := by
  have h := eqOp k k' a a' b b' c c' d d' e e' i i' cc cc' m m' sv sv' w
  rw [run_eql_struct] at h
  rw [run_neq_struct]
  generalize (Op.equalIn 10000 29 _ _).run Try.prog w = r at h ⊢
  cases r with
  | ok v w' => simp only [Result.andThen_ok, Result.ok.injEq, Value.bool.injEq] at h ⊢; exact ⟨by rw [h.1], h.2⟩
  | halt x w' => simp [Result.andThen] at h

theorem eqOpV (o p : GOp) (w : World) : (binOp .eql 29 o.val p.val).run Try.prog w = .ok (.bool (GOp.same o p)) w := eqOp o.kind p.kind o.task.id p.task.id o.task.c p.task.c o.task.d p.task.d o.task.t p.task.t o.task.m p.task.m o.id p.id o.c p.c o.m p.m o.sv p.sv w
theorem neqOpV (o p : GOp) (w : World) : (binOp .neq 29 o.val p.val).run Try.prog w = .ok (.bool (!(GOp.same o p))) w := neqOp o.kind p.kind o.task.id p.task.id o.task.c p.task.c o.task.d p.task.d o.task.t p.task.t o.task.m p.task.m o.id p.id o.c p.c o.m p.m o.sv p.sv w
theorem eqOpS (o : GOp) (w : World) : (binOp .eql 29 o.val o.val).run Try.prog w = .ok (.bool true) w := by
  rw [eqOpV]; simp [GOp.same]
theorem neqOpS (o : GOp) (w : World) : (binOp .neq 29 o.val o.val).run Try.prog w = .ok (.bool false) w := by
  rw [neqOpV]; simp [GOp.same]
theorem same_true {o p : GOp} (h : GOp.same o p = true) : o = p := of_decide_eq_true h
theorem same_false {o p : GOp} (h : GOp.same o p = false) : o ≠ p := of_decide_eq_false h

theorem ok_ne {o : GOp} (h : o ≠ o.bare) : false = decide o.ok := (decide_eq_false (fun k => h k.1)).symm
theorem ok_eq {o : GOp} (h : o = o.bare) : decide o.ok = decide o.right := by
  rw [Bool.eq_iff_iff, decide_eq_true_eq, decide_eq_true_eq]; exact ⟨fun k => k.2, fun k => ⟨h, k⟩⟩
theorem bare_id {o : GOp} (h : o = o.bare) (h2 : o.kind ≠ 2) (h3 : o.kind ≠ 3) : o.id = 0 := by
  rw [h]
  simp only [GOp.bare, if_neg h2, if_neg h3]
  split
  · rfl
  · split <;> rfl
theorem ok_lo {o : GOp} (h : o = o.bare) (hi : o.id < 0) : false = decide o.ok := by
  rw [ok_eq h]
  refine (decide_eq_false fun k => ?_).symm
  unfold GOp.right at k
  by_cases h2 : o.kind = 2
  · simp [h2] at k; omega
  by_cases h3 : o.kind = 3
  · simp [h3] at k; omega
  have := bare_id h h2 h3; omega
theorem ok_hi {o : GOp} (h : o = o.bare) (hi : o.id > 1023) : false = decide o.ok := by
  rw [ok_eq h]
  refine (decide_eq_false fun k => ?_).symm
  unfold GOp.right at k
  by_cases h2 : o.kind = 2
  · simp [h2] at k; omega
  by_cases h3 : o.kind = 3
  · simp [h3] at k; omega
  have := bare_id h h2 h3; omega

/-- An op that may be has small numbers. -/
structure OpB (o : GOp) : Prop where
  kl : 1 ≤ o.kind
  kh : o.kind ≤ 4
  il : 0 ≤ o.id
  ih : o.id ≤ 1023
  cl : 0 ≤ o.c
  ch : o.c ≤ 2147483648
  ml : 0 ≤ o.m
  mh : o.m ≤ 3
  tidl : 0 ≤ o.task.id
  tidh : o.task.id ≤ 1023
  tcl : 0 ≤ o.task.c
  tch : o.task.c ≤ 2147483648
  tdl : 0 ≤ o.task.d
  tdh : o.task.d ≤ 2147483648
  ttl : 0 ≤ o.task.t
  tth : o.task.t ≤ 2147483648
  tml : 0 ≤ o.task.m
  tmh : o.task.m ≤ 15
theorem GOp.ok.b {o : GOp} (h : o.ok) : OpB o := by
  obtain ⟨k, ⟨a, b, c, d, e⟩, sv, i, cc, m⟩ := o
  obtain ⟨h1, h2⟩ := h
  simp only [GOp.bare, GOp.right, GTask.ok] at h1 h2
  by_cases k1 : k = 1
  · simp only [k1, if_true, GOp.mk.injEq, GTask.mk.injEq] at h1 h2
    constructor <;> simp only <;> omega
  by_cases k2 : k = 2
  · simp [k2] at h1 h2
    constructor <;> simp only <;> omega
  by_cases k3 : k = 3
  · simp [k3] at h1 h2
    constructor <;> simp only <;> omega
  by_cases k4 : k = 4
  · simp [k4] at h1 h2
    constructor <;> simp only <;> omega
  · simp [k1, k2, k3, k4] at h2

def GOp.tl (o : GOp) : List UInt8 :=
  if o.kind = 1 then encNum o.task.id.toNat ++ (encNum o.task.c.toNat ++ (encNum o.task.d.toNat ++ (encNum o.task.t.toNat ++ (encNum o.task.m.toNat ++ encFlag o.sv))))
  else if o.kind = 2 then encNum o.id.toNat
  else if o.kind = 3 then encNum o.id.toNat ++ encNum o.c.toNat
  else encNum o.m.toNat
theorem enc_tl {o : GOp} (h : o.ok) : o.enc = encNum o.kind.toNat ++ o.tl := by
  have b := h.b
  have := b.kl; have := b.kh
  unfold GOp.enc GOp.tl
  by_cases k1 : o.kind = 1
  · simp [k1]
  by_cases k2 : o.kind = 2
  · simp [k2]
  by_cases k3 : o.kind = 3
  · simp [k3]
  · have k4 : o.kind = 4 := by omega
    simp [k4]
theorem encNum_inj1 {a b : Nat} (ha : a < 18446744073709551616) (hb : b < 18446744073709551616) (h : encNum a = encNum b) : a = b := (encNum_inj (s := []) (t := []) ha hb (by simpa using h)).1
theorem encFlag_inj {a b : Bool} (h : encFlag a = encFlag b) : a = b := by
  cases a <;> cases b <;> first
    | rfl
    | (exfalso; simp only [encFlag] at h; have := (encNum_inj (a := 0) (b := 1) (s := []) (t := []) (by decide) (by decide) (by simpa using h)).1; simp at this)
    | (exfalso; simp only [encFlag] at h; have := (encNum_inj (a := 1) (b := 0) (s := []) (t := []) (by decide) (by decide) (by simpa using h)).1; simp at this)
theorem enc_inj {o p : GOp} (ho : o.ok) (hp : p.ok) (h : o.enc = p.enc) : o = p := by
  have B := ho.b; have B' := hp.b
  rw [enc_tl ho, enc_tl hp] at h
  obtain ⟨hk, h⟩ := encNum_inj (by have := B.kh; omega) (by have := B'.kh; omega) h
  have hk : o.kind = p.kind := by have := B.kl; have := B'.kl; omega
  obtain ⟨⟨kl, kh, il, ih, cl, ch, ml, mh, tidl, tidh, tcl, tch, tdl, tdh, ttl, tth, tml, tmh⟩, ⟨kl', kh', il', ih', cl', ch', ml', mh', tidl', tidh', tcl', tch', tdl', tdh', ttl', tth', tml', tmh'⟩⟩ := And.intro B B'
  clear B B'
  have e1 := ho.1; have e2 := hp.1
  obtain ⟨k, ⟨a, b, c, d, e⟩, sv, i, cc, m⟩ := o
  obtain ⟨k', ⟨a', b', c', d', e'⟩, sv', i', cc', m'⟩ := p
  simp only at *
  subst hk
  unfold GOp.tl at h
  simp only [GOp.bare] at e1 e2
  by_cases k1 : k = 1
  · simp only [k1, if_true, GOp.mk.injEq] at h e1 e2
    obtain ⟨h1, h⟩ := encNum_inj (by omega) (by omega) h
    obtain ⟨h2, h⟩ := encNum_inj (by omega) (by omega) h
    obtain ⟨h3, h⟩ := encNum_inj (by omega) (by omega) h
    obtain ⟨h4, h⟩ := encNum_inj (by omega) (by omega) h
    obtain ⟨h5, h⟩ := encNum_inj (by omega) (by omega) h
    have h6 : sv = sv' := encFlag_inj h
    have : a = a' := by omega
    have : b = b' := by omega
    have : c = c' := by omega
    have : d = d' := by omega
    have : e = e' := by omega
    simp_all
  by_cases k2 : k = 2
  · simp [k2] at h e1 e2
    have := encNum_inj1 (by omega) (by omega) h
    have : i = i' := by omega
    simp_all
  by_cases k3 : k = 3
  · simp [k3] at h e1 e2
    obtain ⟨h1, h⟩ := encNum_inj (by omega) (by omega) h
    have h2 := encNum_inj1 (by omega) (by omega) h
    have : i = i' := by omega
    have : cc = cc' := by omega
    simp_all
  · have k4 : k = 4 := by omega
    simp [k4] at h e1 e2
    have := encNum_inj1 (by omega) (by omega) h
    have : m = m' := by omega
    simp_all
theorem enc_same {o p : GOp} (ho : o.ok) (hp : p.ok) : (decide (o.enc = p.enc) == GOp.same o p) = true := by
  rw [beq_iff_eq, Bool.eq_iff_iff, decide_eq_true_eq]
  exact ⟨fun h => decide_eq_true (enc_inj ho hp h), fun h => by rw [same_true h]⟩

theorem pOf_k1 (o : GOp) (h : o.kind = 1) (w : World) : Calls Try.prog 37 #[o.val] w fun e w' => e = .returned (.iface 101 (.agg #[.int .i64 o.task.id, .int .i64 o.task.c, .int .i64 o.task.d, .int .i64 o.task.t, .int .i64 o.task.m, .bool o.sv])) ∧ Adds w w' := by
  have := pOf_c o w; simpa only [ofV, if_pos h] using this
theorem pOf_k2 (o : GOp) (h : o.kind = 2) (w : World) : Calls Try.prog 37 #[o.val] w fun e w' => e = .returned (.iface 103 (.agg #[.int .i64 o.id])) ∧ Adds w w' := by
  have := pOf_c o w; rw [ofV, if_neg (by omega), if_pos h] at this; exact this
theorem pOf_k3 (o : GOp) (h : o.kind = 3) (w : World) : Calls Try.prog 37 #[o.val] w fun e w' => e = .returned (.iface 105 (.agg #[.int .i64 o.id, .int .i64 o.c])) ∧ Adds w w' := by
  have := pOf_c o w; rw [ofV, if_neg (by omega), if_neg (by omega), if_pos h] at this; exact this
theorem pOf_k4 (o : GOp) (h : o.kind = 4) (w : World) : Calls Try.prog 37 #[o.val] w fun e w' => e = .returned (.iface 107 (.agg #[.int .i64 o.m])) ∧ Adds w w' := by
  have := pOf_c o w; rw [ofV, if_neg (by omega), if_neg (by omega), if_neg (by omega), if_pos h] at this; exact this
theorem pOf_k5 (o : GOp) (h1 : o.kind ≠ 1) (h2 : o.kind ≠ 2) (h3 : o.kind ≠ 3) (h4 : o.kind ≠ 4) (w : World) : Calls Try.prog 37 #[o.val] w fun e w' => e = .returned (.iface 109 (.agg #[.int .i64 o.kind])) ∧ Adds w w' := by
  have := pOf_c o w; rw [ofV, if_neg h1, if_neg h2, if_neg h3, if_neg h4] at this; exact this

/-! the op of bytes -/
open Classical in
noncomputable def opOf (l : List UInt8) : Option GOp := if h : ∃ o : GOp, o.ok ∧ o.enc = l then some h.choose else none
theorem opOf_some {l : List UInt8} {o : GOp} (h1 : o.ok) (h2 : o.enc = l) : opOf l = some o := by
  have h : ∃ o : GOp, o.ok ∧ o.enc = l := ⟨o, h1, h2⟩
  rw [opOf, dif_pos h]
  have := h.choose_spec
  rw [enc_inj this.1 h1 (this.2.trans h2.symm)]
theorem opOf_none {l : List UInt8} (h : ∀ o : GOp, o.ok → o.enc = l → False) : opOf l = none := by
  rw [opOf, dif_neg]; rintro ⟨o, h1, h2⟩; exact h o h1 h2
theorem opOf_iff {l : List UInt8} {o : GOp} : opOf l = some o ↔ o.ok ∧ o.enc = l := by
  refine ⟨fun h => ?_, fun h => opOf_some h.1 h.2⟩
  unfold opOf at h
  split at h
  · rename_i hh; cases h; exact hh.choose_spec
  · cases h
def opRes : Option GOp → Value
  | some o => .tuple #[o.val, .int .i64 0]
  | none => .tuple #[GOp.zero.val, .int .i64 10]

theorem rdInt_fwd {most : Int} {n : Nat} {t : List UInt8} (h0 : 0 ≤ most) (h : (n : Int) ≤ most) (hn : n < 18446744073709551616) : rdInt most (some (encNum n ++ t)) = (n, some t) := by
  unfold rdInt rdNum
  rw [if_neg (by omega)]
  simp only [decNum_enc t (show n ≤ most.toNat by omega) hn]
theorem rdNum_fwd {most : Nat} {n : Nat} {t : List UInt8} (h : n ≤ most) (hn : n < 18446744073709551616) : rdNum most (some (encNum n ++ t)) = (n, some t) := by
  unfold rdNum
  simp only [decNum_enc t h hn]
theorem rdFlag_fwd {f : Bool} {t : List UInt8} : rdFlag (some (encFlag f ++ t)) = (f, some t) := by
  unfold rdFlag encFlag
  rw [rdNum_fwd (by split <;> decide) (by split <;> decide)]
  cases f <;> rfl
theorem rdNum_bwd {most : Nat} {n : Nat} {st : Option (List UInt8)} {t : List UInt8} (h : rdNum most st = (n, some t)) : st = some (encNum n ++ t) := by
  unfold rdNum at h
  cases st with
  | none => simp at h
  | some l =>
    simp only at h
    cases hd : decNum most l with
    | none => simp [hd] at h
    | some p =>
      obtain ⟨m, u⟩ := p
      simp only [hd, Prod.mk.injEq, Option.some.injEq] at h
      rw [(decNum_some hd).1, h.1, h.2]
theorem rdInt_bwd {most : Int} {n : Nat} {st : Option (List UInt8)} {t : List UInt8} (h : rdInt most st = (n, some t)) : st = some (encNum n ++ t) := by
  unfold rdInt at h
  split at h
  · simp at h
  · exact rdNum_bwd h
theorem rdFlag_bwd {f : Bool} {st : Option (List UInt8)} {t : List UInt8} (h : rdFlag st = (f, some t)) : st = some (encFlag f ++ t) := by
  unfold rdFlag at h
  simp only [Prod.mk.injEq] at h
  have h1 := rdNum_bwd (most := 1) (st := st) (n := (rdNum 1 st).1) (t := t) (by rw [← h.2])
  have h2 := rdNum_le 1 st
  rw [h1, ← h.1]
  unfold encFlag
  congr 3
  generalize (rdNum 1 st).1 = m at h2
  match m, h2 with
  | 0, _ => rfl
  | 1, _ => rfl

end Go.Proofs.Ytfpdfjbooalgjaa
