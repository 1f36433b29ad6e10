
/- Commands: cells, what may be, bytes, plainly. -/
import Derived.Test.YtfpdfjbooalgjaaSt0
import Derived.Test.YtfpdfjbooalgjaaSx7
namespace Go.Proofs.Ytfpdfjbooalgjaa
open Go.RowKit
set_option linter.unusedVariables false
set_option linter.unusedSimpArgs false

structure GFate where
  kind : Int
  at_ : Int
deriving DecidableEq
abbrev fateC (f : GFate) : List Value := [.int .i64 f.kind, .int .i64 f.at_]
abbrev GFate.val (f : GFate) : Value := .agg #[.int .i64 f.kind, .int .i64 f.at_]
theorem ekFate : EK fateC 2 50 := EK.of (z := .agg #[.int .i64 0, .int .i64 0]) (bt := 16) (fun _ => rfl) (fun _ => rfl) (by decide) (by kernel_rfl) rfl (by decide)
structure PCmd where
  kind : Int
  op : GOp
  id : Int
  work : Int
  n : Int
  fs : List GFate
deriving DecidableEq
instance : Inhabited PCmd := ⟨⟨0, GOp.zero, 0, 0, 0, []⟩⟩
structure GCmd where
  p : PCmd
  A : Option Addr
  cap : Nat
abbrev cmdC (c : GCmd) : List Value := [.int .i64 c.p.kind, .int .i64 c.p.op.kind, .int .i64 c.p.op.task.id, .int .i64 c.p.op.task.c, .int .i64 c.p.op.task.d, .int .i64 c.p.op.task.t, .int .i64 c.p.op.task.m, .bool c.p.op.sv, .int .i64 c.p.op.id, .int .i64 c.p.op.c, .int .i64 c.p.op.m, .int .i64 c.p.id, .int .i64 c.p.work, .int .i64 c.p.n, .slice c.A c.p.fs.length c.cap]
abbrev GCmd.val (c : GCmd) : Value := .agg #[.int .i64 c.p.kind, .int .i64 c.p.op.kind, .int .i64 c.p.op.task.id, .int .i64 c.p.op.task.c, .int .i64 c.p.op.task.d, .int .i64 c.p.op.task.t, .int .i64 c.p.op.task.m, .bool c.p.op.sv, .int .i64 c.p.op.id, .int .i64 c.p.op.c, .int .i64 c.p.op.m, .int .i64 c.p.id, .int .i64 c.p.work, .int .i64 c.p.n, .slice c.A c.p.fs.length c.cap]
theorem ekCmd : EK cmdC 15 32 := EK.of (z := .agg #[.int .i64 0, .int .i64 0, .int .i64 0, .int .i64 0, .int .i64 0, .int .i64 0, .int .i64 0, .bool false, .int .i64 0, .int .i64 0, .int .i64 0, .int .i64 0, .int .i64 0, .int .i64 0, .slice none 0 0]) (bt := 136) (fun _ => rfl) (fun _ => rfl) (by decide) (by kernel_rfl) rfl (by decide)

theorem eqFateV (t u : GFate) (w : World) : (binOp .eql 50 t.val u.val).run Try.prog w = .ok (.bool (decide (t = u))) w := by
  obtain ⟨a, b⟩ := t
  obtain ⟨a', b'⟩ := u
  have hs : decide ((⟨a, b⟩ : GFate) = ⟨a', b'⟩) = decide (a = a' ∧ b = b') := by simp only [GFate.mk.injEq]
  rw [hs]; clear hs
  simp [go_sem]
  repeat' split
  all_goals simp_all
theorem neqFateV (t u : GFate) (w : World) : (binOp .neq 50 t.val u.val).run Try.prog w = .ok (.bool (!(decide (t = u)))) w := by
  have h := eqFateV t u w
  rw [run_eql_struct] at h
  rw [run_neq_struct]
  generalize (Op.equalIn 10000 50 _ _).run Try.prog w = r at h ⊢
  cases r with
  | ok v w' => simp only [Result.andThen_ok, Result.ok.injEq, Value.bool.injEq] at h ⊢; exact ⟨by rw [h.1], h.2⟩
  | halt x w' => simp [Result.andThen] at h
theorem eqFateS (t : GFate) (w : World) : (binOp .eql 50 t.val t.val).run Try.prog w = .ok (.bool true) w := by rw [eqFateV]; simp
theorem neqFateS (t : GFate) (w : World) : (binOp .neq 50 t.val t.val).run Try.prog w = .ok (.bool false) w := by rw [neqFateV]; simp

/-! what may be -/
def GFate.ok (f : GFate) : Prop := 0 ≤ f.kind ∧ f.kind ≤ 2 ∧ 0 ≤ f.at_ ∧ f.at_ ≤ 64
def PCmd.bare (c : PCmd) : PCmd :=
  if c.kind = 1 then ⟨1, c.op, 0, 0, 0, []⟩
  else if c.kind = 2 ∨ c.kind = 3 then ⟨c.kind, GOp.zero, c.id, c.work, 0, []⟩
  else if c.kind = 4 ∨ c.kind = 7 then ⟨c.kind, GOp.zero, 0, 0, c.n, []⟩
  else if c.kind = 5 then ⟨5, GOp.zero, c.id, 0, 0, []⟩
  else if c.kind = 8 then ⟨8, GOp.zero, 0, 0, 0, c.fs⟩
  else ⟨c.kind, GOp.zero, 0, 0, 0, []⟩
def PCmd.rngs (c : PCmd) : Prop := 1 ≤ c.kind ∧ c.kind ≤ 9 ∧ 0 ≤ c.id ∧ c.id ≤ 1023 ∧ 0 ≤ c.work ∧ c.work ≤ 2147483648 ∧ 0 ≤ c.n ∧ c.n ≤ 1048576 ∧ c.fs.length ≤ 64
def PCmd.ok (c : PCmd) : Prop := c = c.bare ∧ c.rngs ∧ (∀ f ∈ c.fs, f.ok) ∧ (c.kind = 1 → c.op.ok)
noncomputable def cokB (c : PCmd) : Bool := @decide c.ok (Classical.propDecidable _)
theorem cok_t {t : PCmd} (h : cokB t = true) : t.ok := @of_decide_eq_true _ (Classical.propDecidable _) h
theorem cok_f {t : PCmd} (h : cokB t = false) : ¬ t.ok := @of_decide_eq_false _ (Classical.propDecidable _) h
theorem cok_eqt {t : PCmd} (h : t.ok) : cokB t = true := @decide_eq_true _ (Classical.propDecidable _) h
theorem cok_eqf {t : PCmd} (h : ¬ t.ok) : cokB t = false := @decide_eq_false _ (Classical.propDecidable _) h
def GCmd.bare (c : GCmd) : GCmd := ⟨c.p.bare, if c.p.kind = 8 then c.A else none, if c.p.kind = 8 then c.cap else 0⟩
theorem bare_sl {c : GCmd} {w : World} (h : SlAt fateC 2 50 c.A c.p.fs w) : SlAt fateC 2 50 c.bare.A c.bare.p.fs w := by
  unfold GCmd.bare PCmd.bare
  by_cases h8 : c.p.kind = 8
  · simp only [h8]; simpa using h
  · refine .inl ?_
    simp only
    repeat' split
    all_goals first | rfl | (exfalso; omega)

theorem bare_le (c : GCmd) : (GCmd.bare c).p.fs.length ≤ c.p.fs.length := by
  unfold GCmd.bare PCmd.bare; simp only; repeat' split
  all_goals simp

/-! bytes -/
def encFate (f : GFate) : List UInt8 := encNum f.kind.toNat ++ encNum f.at_.toNat
def PCmd.tl (c : PCmd) : List UInt8 :=
  if c.kind = 1 then encText c.op.enc
  else if c.kind = 2 ∨ c.kind = 3 then encNum c.id.toNat ++ encNum c.work.toNat
  else if c.kind = 4 ∨ c.kind = 7 then encNum c.n.toNat
  else if c.kind = 5 then encNum c.id.toNat
  else if c.kind = 8 then encNum c.fs.length ++ c.fs.flatMap encFate
  else []
def PCmd.enc (c : PCmd) : List UInt8 := encNum c.kind.toNat ++ c.tl
theorem encNum_le (n k : Nat) (h : n < 256 ^ k) : (encNum n).length ≤ k + 1 := by
  have := beb_len_le n k h
  simp only [encNum, List.length_cons]; omega
theorem encFate_len {f : GFate} (h : f.ok) : (encFate f).length ≤ 4 := by
  obtain ⟨h0, h1, h2, h3⟩ := h
  have := encNum_le f.kind.toNat 1 (by omega)
  have := encNum_le f.at_.toNat 1 (by omega)
  simp only [encFate, List.length_append]; omega
theorem encFates_len : ∀ {fs : List GFate}, (∀ f ∈ fs, f.ok) → (fs.flatMap encFate).length ≤ 4 * fs.length
  | [], _ => by simp
  | f :: fs, h => by
    have h1 := encFate_len (h f (List.mem_cons_self ..))
    have h2 := encFates_len (fs := fs) (fun g hg => h g (List.mem_cons_of_mem _ hg))
    simp only [List.flatMap_cons, List.length_append, List.length_cons]; omega
theorem cenc_len {c : PCmd} (h : c.ok) : c.enc.length ≤ 300 := by
  obtain ⟨hb, ⟨k1, k9, i0, i1, w0, w1, n0, n1, fl⟩, hf, ho⟩ := h
  have a1 := encNum_le c.kind.toNat 1 (by omega)
  have a2 := encNum_le c.id.toNat 2 (by omega)
  have a3 := encNum_le c.work.toNat 4 (by omega)
  have a4 := encNum_le c.n.toNat 3 (by omega)
  have a5 := encNum_le c.fs.length 1 (by omega)
  have a6 := encFates_len hf
  unfold PCmd.enc PCmd.tl
  rw [List.length_append]
  split
  · rename_i e
    have b1 := enc_len43 (ho e)
    have b2 := encNum_le c.op.enc.length 1 (by omega)
    simp only [encText, List.length_append]; omega
  split
  · simp only [List.length_append]; omega
  split
  · omega
  split
  · omega
  split
  · simp only [List.length_append]; omega
  · simp only [List.length_nil]; omega
theorem cenc_pos (c : PCmd) : 0 < c.enc.length := by
  unfold PCmd.enc encNum; simp

/-- A command's bytes end where they end. -/
theorem fates_split : ∀ {fs gs : List GFate} {t u : List UInt8}, fs.length = gs.length → (∀ f ∈ fs, f.ok) → (∀ f ∈ gs, f.ok) → fs.flatMap encFate ++ t = gs.flatMap encFate ++ u → fs = gs ∧ t = u
  | [], [], t, u, _, _, _, h => ⟨rfl, by simpa using h⟩
  | [], _ :: _, _, _, hl, _, _, _ => by simp at hl
  | _ :: _, [], _, _, hl, _, _, _ => by simp at hl
  | f :: fs, g :: gs, t, u, hl, hf, hg, h => by
    obtain ⟨a0, a1, a2, a3⟩ := hf f (List.mem_cons_self ..)
    obtain ⟨b0, b1, b2, b3⟩ := hg g (List.mem_cons_self ..)
    simp only [List.flatMap_cons, encFate, List.append_assoc] at h
    obtain ⟨e1, h⟩ := encNum_inj (by omega) (by omega) h
    obtain ⟨e2, h⟩ := encNum_inj (by omega) (by omega) h
    obtain ⟨e3, e4⟩ := fates_split (by simpa using hl) (fun x hx => hf x (List.mem_cons_of_mem _ hx)) (fun x hx => hg x (List.mem_cons_of_mem _ hx)) h
    refine ⟨?_, e4⟩
    rw [e3]
    congr 1
    obtain ⟨fk, fa⟩ := f
    obtain ⟨gk, ga⟩ := g
    simp only at *
    rw [GFate.mk.injEq]; omega
theorem text_split {a b t u : List UInt8} (ha : a.length < 18446744073709551616) (hb : b.length < 18446744073709551616) (h : encText a ++ t = encText b ++ u) : a = b ∧ t = u := by
  simp only [encText, List.append_assoc] at h
  obtain ⟨e1, h⟩ := encNum_inj ha hb h
  exact List.append_inj h e1
theorem bare_kind (c : PCmd) : c.bare.kind = c.kind := by
  unfold PCmd.bare; repeat' split
  all_goals first | rfl | (simp only; omega)
theorem cmd_split {c d : PCmd} {t u : List UInt8} (hc : c.ok) (hd : d.ok) (h : c.enc ++ t = d.enc ++ u) : c = d ∧ t = u := by
  obtain ⟨hb, ⟨k1, k9, i0, i1, w0, w1, n0, n1, fl⟩, hf, ho⟩ := hc
  obtain ⟨hb', ⟨k1', k9', i0', i1', w0', w1', n0', n1', fl'⟩, hf', ho'⟩ := hd
  simp only [PCmd.enc, List.append_assoc] at h
  obtain ⟨hk, h⟩ := encNum_inj (by omega) (by omega) h
  have hk : c.kind = d.kind := by omega
  unfold PCmd.tl at h
  unfold PCmd.bare at hb hb'
  obtain ⟨k, o, i, wk, n, fs⟩ := c
  obtain ⟨k', o', i', wk', n', fs'⟩ := d
  simp only at *
  subst hk
  by_cases h1 : k = 1
  · simp only [if_pos h1] at h hb hb'
    have b1 := enc_len43 (ho h1); have b2 := enc_len43 (ho' h1)
    obtain ⟨e, e'⟩ := text_split (by omega) (by omega) h
    have := enc_inj (ho h1) (ho' h1) e
    refine ⟨?_, e'⟩
    rw [hb, hb', this]
  by_cases h2 : k = 2 ∨ k = 3
  · simp only [if_neg h1, if_pos h2, List.append_assoc] at h hb hb'
    obtain ⟨e1, h⟩ := encNum_inj (by omega) (by omega) h
    obtain ⟨e2, h⟩ := encNum_inj (by omega) (by omega) h
    refine ⟨?_, h⟩
    rw [hb, hb', show i = i' by omega, show wk = wk' by omega]
  by_cases h4 : k = 4 ∨ k = 7
  · simp only [if_neg h1, if_neg h2, if_pos h4] at h hb hb'
    obtain ⟨e1, h⟩ := encNum_inj (by omega) (by omega) h
    refine ⟨?_, h⟩
    rw [hb, hb', show n = n' by omega]
  by_cases h5 : k = 5
  · simp only [if_neg h1, if_neg h2, if_neg h4, if_pos h5] at h hb hb'
    obtain ⟨e1, h⟩ := encNum_inj (by omega) (by omega) h
    refine ⟨?_, h⟩
    rw [hb, hb', show i = i' by omega]
  by_cases h8 : k = 8
  · simp only [if_neg h1, if_neg h2, if_neg h4, if_neg h5, if_pos h8, List.append_assoc] at h hb hb'
    obtain ⟨e1, h⟩ := encNum_inj (by omega) (by omega) h
    obtain ⟨e2, h⟩ := fates_split e1 hf hf' h
    refine ⟨?_, h⟩
    rw [hb, hb', e2]
  · simp only [if_neg h1, if_neg h2, if_neg h4, if_neg h5, if_neg h8] at h hb hb'
    refine ⟨?_, by simpa using h⟩
    rw [hb, hb']

def cencs (xs : List PCmd) : List UInt8 := xs.flatMap PCmd.enc
/-- What reading a text comes to. -/
def Parsed (l : List UInt8) (xs : List PCmd) (r : List UInt8) : Prop := (∀ c ∈ xs, c.ok) ∧ l = cencs xs ++ r ∧ (∀ c t, PCmd.ok c → r = c.enc ++ t → False)
theorem Parsed.uniq {l r r' : List UInt8} {xs ys : List PCmd} (h : Parsed l xs r) (h' : Parsed l ys r') : xs = ys ∧ r = r' := by
  obtain ⟨h1, h2, h3⟩ := h
  obtain ⟨h1', h2', h3'⟩ := h'
  rw [h2] at h2'
  clear h2
  induction xs generalizing ys with
  | nil =>
    cases ys with
    | nil => exact ⟨rfl, by simpa [cencs] using h2'⟩
    | cons y ys => exact (h3 y (cencs ys ++ r') (h1' y (List.mem_cons_self ..)) (by simpa [cencs] using h2')).elim
  | cons x xs ih =>
    cases ys with
    | nil => exact (h3' x (cencs xs ++ r) (h1 x (List.mem_cons_self ..)) (by simpa [cencs] using h2'.symm)).elim
    | cons y ys =>
      simp only [cencs, List.flatMap_cons, List.append_assoc] at h2'
      obtain ⟨e1, e2⟩ := cmd_split (h1 x (List.mem_cons_self ..)) (h1' y (List.mem_cons_self ..)) h2'
      obtain ⟨e3, e4⟩ := ih (fun c hc => h1 c (List.mem_cons_of_mem _ hc)) (fun c hc => h1' c (List.mem_cons_of_mem _ hc)) e2
      exact ⟨by rw [e1, e3], e4⟩
theorem Parsed.of {xs : List PCmd} (h : ∀ c ∈ xs, c.ok) : Parsed (cencs xs) xs [] := ⟨h, by simp, fun c t hc e => by
  have := cenc_pos c
  have h2 := congrArg List.length e
  simp at h2; omega⟩
theorem no_cmd (t : List UInt8) : ∀ (c : PCmd) u, c.ok → 1 :: 0 :: t = c.enc ++ u → False := fun c u hc e => by
  obtain ⟨hb, ⟨k1, k9, _⟩, _⟩ := hc
  have h9 : c.kind.toNat < 256 := by omega
  unfold PCmd.enc encNum at e
  have hb1 : beb c.kind.toNat = [UInt8.ofNat (c.kind.toNat % 256)] := by
    rw [beb_pos (by omega), show c.kind.toNat / 256 = 0 by omega, beb_zero]; rfl
  rw [hb1] at e
  simp only [List.cons_append, List.nil_append, List.cons.injEq] at e
  have := congrArg UInt8.toNat e.2.1
  rw [u8_toNat_ofNat] at this
  simp at this; omega
theorem Parsed.more {xs : List PCmd} (h : ∀ c ∈ xs, c.ok) (b : UInt8) : Parsed (cencs xs ++ [1, 0, b]) xs [1, 0, b] := ⟨h, rfl, fun c t hc e => no_cmd _ c t hc e⟩

/-! what walks want -/
instance (f : GFate) : Decidable f.ok := by unfold GFate.ok; infer_instance
theorem wrong_t {f : GFate} (h : ¬ f.ok) : true = !(decide f.ok) := by rw [decide_eq_false h]; rfl
theorem wrong_e {f : GFate} (h : 0 ≤ f.kind ∧ f.kind ≤ 2) : (!(decide (0 ≤ f.at_ ∧ f.at_ ≤ 64))) = !(decide f.ok) := by
  congr 1
  exact decide_eq_decide.2 ⟨fun k => ⟨h.1, h.2, k.1, k.2⟩, fun k => ⟨k.2.2.1, k.2.2.2⟩⟩
def okFs (fs : List GFate) : Bool := fs.all fun f => decide f.ok
theorem okFs_t {fs : List GFate} (h : okFs fs = true) : ∀ f ∈ fs, f.ok := fun f hf => by
  have := List.all_eq_true.1 h f hf; exact of_decide_eq_true this
theorem okFs_f {fs : List GFate} (h : okFs fs = false) : ¬ ∀ f ∈ fs, f.ok := fun hh => by
  have : okFs fs = true := List.all_eq_true.2 (fun f hf => decide_eq_true (hh f hf))
  rw [this] at h; cases h
def upF (fs : List GFate) (i : Int) : Prop := ∀ (k : Nat) (f : GFate), (k : Int) < i → fs[k]? = some f → f.ok
theorem upF_zero (fs : List GFate) : upF fs 0 := fun k f h => by omega
theorem upF_succ {fs : List GFate} {i : Int} {r : GFate} (h0 : 0 ≤ i) (h : upF fs i) (hr : fs[i.toNat]? = some r) (ho : r.ok) : upF fs (i + 1) := fun k f hk hf => by
  by_cases e : (k : Int) = i
  · rw [show i.toNat = k by omega, hf] at hr; cases hr; exact ho
  · exact h k f (by omega) hf
theorem upF_end {fs : List GFate} {i : Int} (h1 : (fs.length : Int) ≤ i) (h : upF fs i) : ∀ f ∈ fs, f.ok := fun f hf => by
  obtain ⟨k, hk, e⟩ := List.getElem_of_mem hf
  exact h k f (by omega) (by rw [List.getElem?_eq_getElem hk, e])
theorem okFs_end {fs : List GFate} {i : Int} (h1 : (fs.length : Int) ≤ i) (h : upF fs i) : okFs fs = true := List.all_eq_true.2 fun f hf => decide_eq_true (upF_end h1 h f hf)
theorem okFs_bad {fs : List GFate} {i : Nat} {r : GFate} (hr : fs[i]? = some r) (h : ¬ r.ok) : okFs fs = false := Bool.eq_false_iff.2 fun e => h (okFs_t e r (List.mem_of_getElem? hr))
section
variable {a b c : PCmd}
theorem same_ne (h : a ≠ b) : false = decide (a = b) := (decide_eq_false h).symm
theorem same_fin (h1 : a.kind = b.kind) (h2 : GOp.same a.op b.op = true) (h3 : a.id = b.id) (h4 : a.work = b.work) (h5 : a.n = b.n) : decide (a.fs = b.fs) = decide (a = b) := by
  have h2 := same_true h2
  obtain ⟨k, o, i, w, n, fs⟩ := a
  obtain ⟨k', o', i', w', n', fs'⟩ := b
  simp only at *
  subst h1 h2 h3 h4 h5
  simp
theorem same_fin2 (h1 : a.kind = b.kind) (h2 : GOp.same a.op b.op = true) (h3 : a.id = b.id) (h4 : a.work = b.work) (h5 : a.fs = b.fs) : (a.n == b.n) = decide (a = b) := by
  have h2 := same_true h2
  obtain ⟨k, o, i, w, n, fs⟩ := a
  obtain ⟨k', o', i', w', n', fs'⟩ := b
  simp only at *
  subst h1 h2 h3 h4 h5
  rw [Bool.eq_iff_iff]; simp
theorem same_op (h : GOp.same a.op b.op = false) : false = decide (a = b) := same_ne fun e => same_false h (by rw [e])
theorem cok_ne (h : c ≠ c.bare) : false = cokB c := (cok_eqf fun k => h k.1).symm
theorem cok_rng (h : ¬ c.rngs) : false = cokB c := (cok_eqf fun k => h k.2.1).symm
theorem cok_fs (h : ¬ ∀ f ∈ c.fs, f.ok) : false = cokB c := (cok_eqf fun k => h k.2.2.1).symm
theorem cok_fs1 {i : Int} {r : GFate} (hr : c.fs[i.toNat]? = some r) (h : ¬ r.ok) : false = cokB c := cok_fs fun k => h (k r (List.mem_of_getElem? hr))
theorem cok_op (h : c = c.bare) (hk : c.kind = 1) : decide c.op.ok = cokB c := by
  have h2 : c.rngs ∧ ∀ f ∈ c.fs, f.ok := by
    rw [h, PCmd.bare, if_pos hk]; simp [PCmd.rngs]
  by_cases ho : c.op.ok
  · rw [cok_eqt ⟨h, h2.1, h2.2, fun _ => ho⟩]; exact decide_eq_true ho
  · rw [cok_eqf fun k => ho (k.2.2.2 hk)]; exact decide_eq_false ho
theorem cok_end (h : c = c.bare) (hr : c.rngs) (hk : c.kind ≠ 1) : okFs c.fs = cokB c := by
  cases e : okFs c.fs with
  | true => exact (cok_eqt ⟨h, hr, okFs_t e, fun k => absurd k hk⟩).symm
  | false => exact cok_fs (okFs_f e)
theorem cok_end2 (h : c = c.bare) (hr : c.rngs) (hk : c.kind ≠ 1) (hf : ∀ f ∈ c.fs, f.ok) : true = cokB c := (cok_eqt ⟨h, hr, hf, fun k => absurd k hk⟩).symm
end
/-- The slices within commands. -/
def Fts (n : Nat) (xs : List GCmd) (w : World) : Prop := ∀ c ∈ xs, SlAt fateC 2 50 c.A c.p.fs w ∧ c.p.fs.length ≤ c.cap ∧ c.p.fs.length ≤ n
section
variable {n : Nat} {xs ys : List GCmd} {w w' : World} {i : Nat} {r : GCmd}
theorem fts_mem (h : Fts n xs w) (hr : xs[i]? = some r) : SlAt fateC 2 50 r.A r.p.fs w ∧ r.p.fs.length ≤ r.cap ∧ r.p.fs.length ≤ n := h r (List.mem_of_getElem? hr)
theorem Fts.le {m : Nat} (h : Fts n xs w) (hm : n ≤ m) : Fts m xs w := fun c hc => ⟨(h c hc).1, (h c hc).2.1, Nat.le_trans (h c hc).2.2 hm⟩
theorem Fts.adds (h : Fts n xs w) (k : Keeps (fun _ => False) w w') : Fts n xs w' := fun c hc => ⟨(h c hc).1.adds k, (h c hc).2⟩
end
/-- .. of the call's own. -/
def FtsO (n : Nat) (xs : List GCmd) (w : World) : Prop := ∀ c ∈ xs, OwAt fateC 2 50 c.A c.cap c.p.fs w ∧ c.p.fs.length ≤ n
section
variable {n : Nat} {xs ys : List GCmd} {w w' : World} {i : Nat} {r : GCmd} {S : Nat → Prop} {b : Nat}
theorem FtsO.fts (h : FtsO n xs w) : Fts n xs w := fun c hc => ⟨(h c hc).1.sl ekFate, SlAt.cell (h c hc).1, (h c hc).2⟩
theorem FtsO.keeps (h : FtsO n xs w) (k : Keeps S w w') (hn : ∀ i cur, w.heap[i]? = some (.cells cur 50 (0, 0)) → ¬ S i) : FtsO n xs w' := fun c hc => ⟨(h c hc).1.keeps k fun i hi => by
  rcases (h c hc).1.block with ⟨e, _⟩ | ⟨g, cur, e, hg, _⟩
  · rw [e] at hi; simp [blk] at hi
  · rw [e] at hi; simp only [blk, Option.map_some, Option.some.injEq] at hi; subst hi; exact hn _ _ hg, (h c hc).2⟩
theorem FtsO.adds (h : FtsO n xs w) (k : Keeps (fun _ => False) w w') : FtsO n xs w' := h.keeps k fun _ _ _ => id
theorem FtsO.nil : FtsO n [] w := fun c hc => by simp at hc
theorem FtsO.snoc (h : FtsO n xs w) (hr : OwAt fateC 2 50 r.A r.cap r.p.fs w) (hl : r.p.fs.length ≤ n) : FtsO n (xs ++ [r]) w := fun c hc => by
  rcases List.mem_append.1 hc with hc | hc
  · exact h c hc
  · rw [List.mem_singleton.1 hc]; exact ⟨hr, hl⟩
end
theorem ne_get {α : Type} {xs : List α} {i : Nat} {r : α} (h : xs[i]? = some r) : xs ≠ [] := fun e => by rw [e] at h; simp at h
theorem off_own {α : Type} {cl : α → List Value} {m : Nat} {E : TypeId} {A : Option Addr} {xs : List α} {w : World} {b : Nat} {r : Option Nat} (h : SlAt cl m E A xs w) (z : w.heap.size ≤ b) (lk : WLink w none r) : xs ≠ [] → ∀ p, A = some p → ¬ (p.block = b ∨ r = some p.block) := fun hx p hp e => by
  have := h.lt hx p hp
  rcases e with e | e
  · omega
  · rcases lk with rfl | ⟨k, rfl, hk⟩
    · cases e
    · cases e; omega
theorem off_link {α : Type} {xs : List α} {A : Option Addr} {w : World} {b : Nat} {r r' : Option Nat} (hd : xs ≠ [] → ∀ p, A = some p → ¬ (p.block = b ∨ r = some p.block)) (hlt : xs ≠ [] → ∀ p, A = some p → p.block < w.heap.size) (lk : WLink w r r') : xs ≠ [] → ∀ p, A = some p → ¬ (p.block = b ∨ r' = some p.block) := fun hx p hp e => by
  rcases e with e | e
  · exact hd hx p hp (.inl e)
  · rcases lk with rfl | ⟨k, rfl, hk⟩
    · exact hd hx p hp (.inr e)
    · cases e; have := hlt hx p hp; omega
theorem encText_len {l : List UInt8} (h : l.length ≤ 100000000) : (encText l).length ≤ 9 + l.length := by
  have := encNum_len l.length (by omega)
  unfold encText; rw [List.length_append]; omega
/-! bytes, step by step -/
def fsU (fs : List GFate) (i : Int) : List UInt8 := (fs.take i.toNat).flatMap encFate
theorem fsU_zero (fs : List GFate) : fsU fs 0 = [] := by simp [fsU]
theorem fsU_succ {fs : List GFate} {i : Int} {r : GFate} (h0 : 0 ≤ i) (hr : fs[i.toNat]? = some r) (X : List UInt8) : X ++ fsU fs i ++ encNum (Int.toNat r.kind) ++ encNum (Int.toNat r.at_) = X ++ fsU fs (i + 1) := by
  unfold fsU; rw [take_succI h0 hr]; simp [encFate]
theorem fsU_end {fs : List GFate} {i : Int} (h : (fs.length : Int) ≤ i) : fsU fs i = fs.flatMap encFate := by unfold fsU; rw [List.take_of_length_le (by omega)]
theorem fsU_len {fs : List GFate} (h : ∀ f ∈ fs, f.ok) (i : Int) : (fsU fs i).length ≤ 4 * fs.length := by
  have := encFates_len (fs := fs.take i.toNat) (fun f hf => h f (List.mem_of_mem_take hf))
  unfold fsU; rw [List.length_take] at this; omega
def csU (xs : List GCmd) (i : Int) : List UInt8 := cencs ((xs.take i.toNat).map GCmd.p)
def upC (xs : List GCmd) (i : Int) : Prop := ∀ c ∈ xs.take i.toNat, c.p.ok
theorem csU_zero (xs : List GCmd) : csU xs 0 = [] := by simp [csU, cencs]
theorem csU_succ {xs : List GCmd} {i : Int} {r : GCmd} (h0 : 0 ≤ i) (hr : xs[i.toNat]? = some r) : csU xs i ++ r.p.enc = csU xs (i + 1) := by
  unfold csU; rw [take_succI h0 hr]; simp [cencs]
theorem csU_end {xs : List GCmd} {i : Int} (h : (xs.length : Int) ≤ i) : csU xs i = cencs (xs.map GCmd.p) := by unfold csU; rw [List.take_of_length_le (by omega)]
theorem upC_zero (xs : List GCmd) : upC xs 0 := by simp [upC]
theorem upC_succ {xs : List GCmd} {i : Int} {r : GCmd} (h0 : 0 ≤ i) (h : upC xs i) (hr : xs[i.toNat]? = some r) (ho : r.p.ok) : upC xs (i + 1) := by
  unfold upC at *; rw [take_succI h0 hr]; intro c hc
  rcases List.mem_append.1 hc with hc | hc
  · exact h c hc
  · rw [List.mem_singleton.1 hc]; exact ho
theorem upC_end {xs : List GCmd} {i : Int} (h1 : (xs.length : Int) ≤ i) (h : upC xs i) : ∀ c ∈ xs.map GCmd.p, c.ok := fun c hc => by
  obtain ⟨g, hg, rfl⟩ := List.mem_map.1 hc
  exact h g (by rw [List.take_of_length_le (by omega)]; exact hg)
theorem cencs_len : ∀ {ps : List PCmd}, (∀ c ∈ ps, c.ok) → (cencs ps).length ≤ 300 * ps.length
  | [], _ => by simp [cencs]
  | c :: ps, h => by
    have h1 := cenc_len (h c (List.mem_cons_self ..))
    have h2 := cencs_len (ps := ps) (fun g hg => h g (List.mem_cons_of_mem _ hg))
    simp only [cencs, List.flatMap_cons, List.length_append, List.length_cons] at *; omega
theorem csU_len {xs : List GCmd} {i : Int} (h : upC xs i) : (csU xs i).length ≤ 300 * xs.length := by
  have := cencs_len (ps := (xs.take i.toNat).map GCmd.p) (fun c hc => by obtain ⟨g, hg, rfl⟩ := List.mem_map.1 hc; exact h g hg)
  unfold csU; rw [List.length_map, List.length_take] at this; omega
open Classical in
noncomputable def bytesC (ps : List PCmd) : List UInt8 := if ∀ c ∈ ps, c.ok then cencs ps else []
theorem bytesC_ok {ps : List PCmd} (h : ∀ c ∈ ps, c.ok) : bytesC ps = cencs ps := if_pos h
theorem bytesC_no {xs : List GCmd} {i : Nat} {r : GCmd} (hr : xs[i]? = some r) (h : ¬ r.p.ok) : bytesC (xs.map GCmd.p) = [] := if_neg fun k => h (k _ (List.mem_map.2 ⟨r, List.mem_of_getElem? hr, rfl⟩))
section
variable {c : PCmd}
theorem enc_k1 (h : c.kind = 1) (X : List UInt8) : X ++ encNum (Int.toNat c.kind) ++ encText c.op.enc = X ++ c.enc := by simp [PCmd.enc, PCmd.tl, h]
theorem enc_k2 (h : c.kind = 2) (X : List UInt8) : X ++ encNum (Int.toNat c.kind) ++ encNum (Int.toNat c.id) ++ encNum (Int.toNat c.work) = X ++ c.enc := by simp [PCmd.enc, PCmd.tl, h]
theorem enc_k3 (h : c.kind = 3) (X : List UInt8) : X ++ encNum (Int.toNat c.kind) ++ encNum (Int.toNat c.id) ++ encNum (Int.toNat c.work) = X ++ c.enc := by simp [PCmd.enc, PCmd.tl, h]
theorem enc_k4 (h : c.kind = 4) (X : List UInt8) : X ++ encNum (Int.toNat c.kind) ++ encNum (Int.toNat c.n) = X ++ c.enc := by simp [PCmd.enc, PCmd.tl, h]
theorem enc_k7 (h : c.kind = 7) (X : List UInt8) : X ++ encNum (Int.toNat c.kind) ++ encNum (Int.toNat c.n) = X ++ c.enc := by simp [PCmd.enc, PCmd.tl, h]
theorem enc_k5 (h : c.kind = 5) (X : List UInt8) : X ++ encNum (Int.toNat c.kind) ++ encNum (Int.toNat c.id) = X ++ c.enc := by simp [PCmd.enc, PCmd.tl, h]
theorem enc_k8 (h : c.kind = 8) (X : List UInt8) : X ++ encNum (Int.toNat c.kind) ++ (encNum c.fs.length ++ c.fs.flatMap encFate) = X ++ c.enc := by simp [PCmd.enc, PCmd.tl, h]
theorem enc_k6 (h1 : c.kind ≠ 1) (h2 : c.kind ≠ 2) (h3 : c.kind ≠ 3) (h4 : c.kind ≠ 4) (h7 : c.kind ≠ 7) (h5 : c.kind ≠ 5) (h8 : c.kind ≠ 8) (X : List UInt8) : X ++ encNum (Int.toNat c.kind) = X ++ c.enc := by simp [PCmd.enc, PCmd.tl, h1, h2, h3, h4, h5, h7, h8]
end
theorem mapU_end {xs ys : List GCmd} {i : Int} (h1 : (xs.length : Int) ≤ i) (hl : (xs.length : Int) = ys.length) (h : eqU (xs.map GCmd.p) (ys.map GCmd.p) i) : true = decide (xs.map GCmd.p = ys.map GCmd.p) := eqU_end (by simpa using h1) (by simpa using hl) h
theorem mapU_len {xs ys : List GCmd} (h : (xs.length : Int) ≠ ys.length) : false = decide (xs.map GCmd.p = ys.map GCmd.p) := eqU_len (by simpa using h)
theorem map_get {xs : List GCmd} {i : Nat} {r : GCmd} (h : xs[i]? = some r) : (xs.map GCmd.p)[i]? = some r.p := by rw [List.getElem?_map, h]; rfl

end Go.Proofs.Ytfpdfjbooalgjaa
