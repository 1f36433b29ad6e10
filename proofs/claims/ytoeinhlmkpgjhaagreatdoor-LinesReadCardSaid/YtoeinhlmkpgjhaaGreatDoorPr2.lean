/- Sc0, Sy1, Sy2, Sc2, Ln5, Ln6, Ln7: one behind the other. -/
import Derived.Test.YtoeinhlmkpgjhaaGreatDoorPr1
namespace Go.Proofs.YtoeinhlmkpgjhaaGreatDoor
open Go.RowKit
set_option linter.unusedVariables false
set_option linter.unusedSimpArgs false
structure GFate where
  kind : Int
  at_ : Int
deriving DecidableEq
abbrev fateC (f : GFate) : List Value := [.int .i64 f.kind, .int .i64 f.at_]
abbrev GFate.val (f : GFate) : Value := .agg #[.int .i64 f.kind, .int .i64 f.at_]
theorem ekFate : EK fateC 2 72 := EK.of (z := .agg #[.int .i64 0, .int .i64 0]) (bt := 16) (fun _ => rfl) (fun _ => rfl) (by decide) (by kernel_rfl) rfl (by decide)
structure PCmd where
  kind : Int
  op : GOp
  id : Int
  work : Int
  n : Int
  fs : List GFate
deriving DecidableEq
instance : Inhabited PCmd := ⟨⟨0, GOp.zero, 0, 0, 0, []⟩⟩
structure GCmd where
  p : PCmd
  A : Option Addr
  cap : Nat
abbrev cmdC (c : GCmd) : List Value := [.int .i64 c.p.kind, .int .i64 c.p.op.kind, .int .i64 c.p.op.task.id, .int .i64 c.p.op.task.c, .int .i64 c.p.op.task.d, .int .i64 c.p.op.task.t, .int .i64 c.p.op.task.m, .bool c.p.op.sv, .int .i64 c.p.op.id, .int .i64 c.p.op.c, .int .i64 c.p.op.m, .int .i64 c.p.id, .int .i64 c.p.work, .int .i64 c.p.n, .slice c.A c.p.fs.length c.cap]
abbrev GCmd.val (c : GCmd) : Value := .agg #[.int .i64 c.p.kind, .int .i64 c.p.op.kind, .int .i64 c.p.op.task.id, .int .i64 c.p.op.task.c, .int .i64 c.p.op.task.d, .int .i64 c.p.op.task.t, .int .i64 c.p.op.task.m, .bool c.p.op.sv, .int .i64 c.p.op.id, .int .i64 c.p.op.c, .int .i64 c.p.op.m, .int .i64 c.p.id, .int .i64 c.p.work, .int .i64 c.p.n, .slice c.A c.p.fs.length c.cap]
theorem ekCmd : EK cmdC 15 39 := EK.of (z := .agg #[.int .i64 0, .int .i64 0, .int .i64 0, .int .i64 0, .int .i64 0, .int .i64 0, .int .i64 0, .bool false, .int .i64 0, .int .i64 0, .int .i64 0, .int .i64 0, .int .i64 0, .int .i64 0, .slice none 0 0]) (bt := 136) (fun _ => rfl) (fun _ => rfl) (by decide) (by kernel_rfl) rfl (by decide)
theorem eqFateV (t u : GFate) (w : World) : (binOp .eql 72 t.val u.val).run Tryz.prog w = .ok (.bool (decide (t = u))) w := by
  obtain ⟨a, b⟩ := t
  obtain ⟨a', b'⟩ := u
  have hs : decide ((⟨a, b⟩ : GFate) = ⟨a', b'⟩) = decide (a = a' ∧ b = b') := by simp only [GFate.mk.injEq]
  rw [hs]; clear hs
  simp [go_sem]
  repeat' split
  all_goals simp_all
theorem neqFateV (t u : GFate) (w : World) : (binOp .neq 72 t.val u.val).run Tryz.prog w = .ok (.bool (!(decide (t = u)))) w := by
  have h := eqFateV t u w
  rw [run_eql_struct] at h
  rw [run_neq_struct]
  generalize (Op.equalIn 10000 72 _ _).run Tryz.prog w = r at h ⊢
  cases r with
  | ok v w' => simp only [Result.andThen_ok, Result.ok.injEq, Value.bool.injEq] at h ⊢; exact ⟨by rw [h.1], h.2⟩
  | halt x w' => simp [Result.andThen] at h
def GFate.ok (f : GFate) : Prop := 0 ≤ f.kind ∧ f.kind ≤ 2 ∧ 0 ≤ f.at_ ∧ f.at_ ≤ 64
def PCmd.bare (c : PCmd) : PCmd :=
  if c.kind = 1 then ⟨1, c.op, 0, 0, 0, []⟩
  else if c.kind = 2 ∨ c.kind = 3 then ⟨c.kind, GOp.zero, c.id, c.work, 0, []⟩
  else if c.kind = 4 ∨ c.kind = 7 then ⟨c.kind, GOp.zero, 0, 0, c.n, []⟩
  else if c.kind = 5 then ⟨5, GOp.zero, c.id, 0, 0, []⟩
  else if c.kind = 8 then ⟨8, GOp.zero, 0, 0, 0, c.fs⟩
  else ⟨c.kind, GOp.zero, 0, 0, 0, []⟩
def PCmd.rngs (c : PCmd) : Prop := 1 ≤ c.kind ∧ c.kind ≤ 9 ∧ 0 ≤ c.id ∧ c.id ≤ 1023 ∧ 0 ≤ c.work ∧ c.work ≤ 2147483648 ∧ 0 ≤ c.n ∧ c.n ≤ 1048576 ∧ c.fs.length ≤ 64
def PCmd.ok (c : PCmd) : Prop := c = c.bare ∧ c.rngs ∧ (∀ f ∈ c.fs, f.ok) ∧ (c.kind = 1 → c.op.ok)
noncomputable def cokB (c : PCmd) : Bool := @decide c.ok (Classical.propDecidable _)
theorem cok_t {t : PCmd} (h : cokB t = true) : t.ok := @of_decide_eq_true _ (Classical.propDecidable _) h
theorem cok_f {t : PCmd} (h : cokB t = false) : ¬ t.ok := @of_decide_eq_false _ (Classical.propDecidable _) h
theorem cok_eqt {t : PCmd} (h : t.ok) : cokB t = true := @decide_eq_true _ (Classical.propDecidable _) h
theorem cok_eqf {t : PCmd} (h : ¬ t.ok) : cokB t = false := @decide_eq_false _ (Classical.propDecidable _) h
def GCmd.bare (c : GCmd) : GCmd := ⟨c.p.bare, if c.p.kind = 8 then c.A else none, if c.p.kind = 8 then c.cap else 0⟩
theorem bare_sl {c : GCmd} {w : World} (h : SlAt fateC 2 72 c.A c.p.fs w) : SlAt fateC 2 72 c.bare.A c.bare.p.fs w := by
  unfold GCmd.bare PCmd.bare
  by_cases h8 : c.p.kind = 8
  · simp only [h8]; simpa using h
  · refine .inl ?_
    simp only
    repeat' split
    all_goals first | rfl | (exfalso; omega)
theorem bare_le (c : GCmd) : (GCmd.bare c).p.fs.length ≤ c.p.fs.length := by
  unfold GCmd.bare PCmd.bare; simp only; repeat' split
  all_goals simp
def encFate (f : GFate) : List UInt8 := encNum f.kind.toNat ++ encNum f.at_.toNat
def PCmd.tl (c : PCmd) : List UInt8 :=
  if c.kind = 1 then encText c.op.enc
  else if c.kind = 2 ∨ c.kind = 3 then encNum c.id.toNat ++ encNum c.work.toNat
  else if c.kind = 4 ∨ c.kind = 7 then encNum c.n.toNat
  else if c.kind = 5 then encNum c.id.toNat
  else if c.kind = 8 then encNum c.fs.length ++ c.fs.flatMap encFate
  else []
def PCmd.enc (c : PCmd) : List UInt8 := encNum c.kind.toNat ++ c.tl
theorem cenc_pos (c : PCmd) : 0 < c.enc.length := by
  unfold PCmd.enc encNum; simp
def cencs (xs : List PCmd) : List UInt8 := xs.flatMap PCmd.enc
def Parsed (l : List UInt8) (xs : List PCmd) (r : List UInt8) : Prop := (∀ c ∈ xs, c.ok) ∧ l = cencs xs ++ r ∧ (∀ c t, PCmd.ok c → r = c.enc ++ t → False)
theorem Parsed.of {xs : List PCmd} (h : ∀ c ∈ xs, c.ok) : Parsed (cencs xs) xs [] := ⟨h, by simp, fun c t hc e => by
  have := cenc_pos c
  have h2 := congrArg List.length e
  simp at h2; omega⟩
theorem no_cmd (t : List UInt8) : ∀ (c : PCmd) u, c.ok → 1 :: 0 :: t = c.enc ++ u → False := fun c u hc e => by
  obtain ⟨hb, ⟨k1, k9, _⟩, _⟩ := hc
  have h9 : c.kind.toNat < 256 := by omega
  unfold PCmd.enc encNum at e
  have hb1 : beb c.kind.toNat = [UInt8.ofNat (c.kind.toNat % 256)] := by
    rw [beb_pos (by omega), show c.kind.toNat / 256 = 0 by omega, beb_zero]; rfl
  rw [hb1] at e
  simp only [List.cons_append, List.nil_append, List.cons.injEq] at e
  have := congrArg UInt8.toNat e.2.1
  rw [u8_toNat_ofNat] at this
  simp at this; omega
theorem Parsed.more {xs : List PCmd} (h : ∀ c ∈ xs, c.ok) (b : UInt8) : Parsed (cencs xs ++ [1, 0, b]) xs [1, 0, b] := ⟨h, rfl, fun c t hc e => no_cmd _ c t hc e⟩
instance (f : GFate) : Decidable f.ok := by unfold GFate.ok; infer_instance
theorem wrong_t {f : GFate} (h : ¬ f.ok) : true = !(decide f.ok) := by rw [decide_eq_false h]; rfl
theorem wrong_e {f : GFate} (h : 0 ≤ f.kind ∧ f.kind ≤ 2) : (!(decide (0 ≤ f.at_ ∧ f.at_ ≤ 64))) = !(decide f.ok) := by
  congr 1
  exact decide_eq_decide.2 ⟨fun k => ⟨h.1, h.2, k.1, k.2⟩, fun k => ⟨k.2.2.1, k.2.2.2⟩⟩
def okFs (fs : List GFate) : Bool := fs.all fun f => decide f.ok
theorem okFs_t {fs : List GFate} (h : okFs fs = true) : ∀ f ∈ fs, f.ok := fun f hf => by
  have := List.all_eq_true.1 h f hf; exact of_decide_eq_true this
theorem okFs_f {fs : List GFate} (h : okFs fs = false) : ¬ ∀ f ∈ fs, f.ok := fun hh => by
  have : okFs fs = true := List.all_eq_true.2 (fun f hf => decide_eq_true (hh f hf))
  rw [this] at h; cases h
def upF (fs : List GFate) (i : Int) : Prop := ∀ (k : Nat) (f : GFate), (k : Int) < i → fs[k]? = some f → f.ok
theorem upF_zero (fs : List GFate) : upF fs 0 := fun k f h => by omega
theorem upF_succ {fs : List GFate} {i : Int} {r : GFate} (h0 : 0 ≤ i) (h : upF fs i) (hr : fs[i.toNat]? = some r) (ho : r.ok) : upF fs (i + 1) := fun k f hk hf => by
  by_cases e : (k : Int) = i
  · rw [show i.toNat = k by omega, hf] at hr; cases hr; exact ho
  · exact h k f (by omega) hf
theorem upF_end {fs : List GFate} {i : Int} (h1 : (fs.length : Int) ≤ i) (h : upF fs i) : ∀ f ∈ fs, f.ok := fun f hf => by
  obtain ⟨k, hk, e⟩ := List.getElem_of_mem hf
  exact h k f (by omega) (by rw [List.getElem?_eq_getElem hk, e])
theorem okFs_end {fs : List GFate} {i : Int} (h1 : (fs.length : Int) ≤ i) (h : upF fs i) : okFs fs = true := List.all_eq_true.2 fun f hf => decide_eq_true (upF_end h1 h f hf)
theorem okFs_bad {fs : List GFate} {i : Nat} {r : GFate} (hr : fs[i]? = some r) (h : ¬ r.ok) : okFs fs = false := Bool.eq_false_iff.2 fun e => h (okFs_t e r (List.mem_of_getElem? hr))
section
variable {a b c : PCmd}
theorem same_ne (h : a ≠ b) : false = decide (a = b) := (decide_eq_false h).symm
theorem same_fin (h1 : a.kind = b.kind) (h2 : GOp.same a.op b.op = true) (h3 : a.id = b.id) (h4 : a.work = b.work) (h5 : a.n = b.n) : decide (a.fs = b.fs) = decide (a = b) := by
  have h2 := same_true h2
  obtain ⟨k, o, i, w, n, fs⟩ := a
  obtain ⟨k', o', i', w', n', fs'⟩ := b
  simp only at *
  subst h1 h2 h3 h4 h5
  simp
theorem same_fin2 (h1 : a.kind = b.kind) (h2 : GOp.same a.op b.op = true) (h3 : a.id = b.id) (h4 : a.work = b.work) (h5 : a.fs = b.fs) : (a.n == b.n) = decide (a = b) := by
  have h2 := same_true h2
  obtain ⟨k, o, i, w, n, fs⟩ := a
  obtain ⟨k', o', i', w', n', fs'⟩ := b
  simp only at *
  subst h1 h2 h3 h4 h5
  rw [Bool.eq_iff_iff]; simp
theorem same_op (h : GOp.same a.op b.op = false) : false = decide (a = b) := same_ne fun e => same_false h (by rw [e])
theorem cok_ne (h : c ≠ c.bare) : false = cokB c := (cok_eqf fun k => h k.1).symm
theorem cok_rng (h : ¬ c.rngs) : false = cokB c := (cok_eqf fun k => h k.2.1).symm
theorem cok_fs (h : ¬ ∀ f ∈ c.fs, f.ok) : false = cokB c := (cok_eqf fun k => h k.2.2.1).symm
theorem cok_fs1 {i : Int} {r : GFate} (hr : c.fs[i.toNat]? = some r) (h : ¬ r.ok) : false = cokB c := cok_fs fun k => h (k r (List.mem_of_getElem? hr))
theorem cok_op (h : c = c.bare) (hk : c.kind = 1) : decide c.op.ok = cokB c := by
  have h2 : c.rngs ∧ ∀ f ∈ c.fs, f.ok := by
    rw [h, PCmd.bare, if_pos hk]; simp [PCmd.rngs]
  by_cases ho : c.op.ok
  · rw [cok_eqt ⟨h, h2.1, h2.2, fun _ => ho⟩]; exact decide_eq_true ho
  · rw [cok_eqf fun k => ho (k.2.2.2 hk)]; exact decide_eq_false ho
theorem cok_end (h : c = c.bare) (hr : c.rngs) (hk : c.kind ≠ 1) : okFs c.fs = cokB c := by
  cases e : okFs c.fs with
  | true => exact (cok_eqt ⟨h, hr, okFs_t e, fun k => absurd k hk⟩).symm
  | false => exact cok_fs (okFs_f e)
theorem cok_end2 (h : c = c.bare) (hr : c.rngs) (hk : c.kind ≠ 1) (hf : ∀ f ∈ c.fs, f.ok) : true = cokB c := (cok_eqt ⟨h, hr, hf, fun k => absurd k hk⟩).symm
end
def Fts (n : Nat) (xs : List GCmd) (w : World) : Prop := ∀ c ∈ xs, SlAt fateC 2 72 c.A c.p.fs w ∧ c.p.fs.length ≤ c.cap ∧ c.p.fs.length ≤ n
section
variable {n : Nat} {xs ys : List GCmd} {w w' : World} {i : Nat} {r : GCmd}
theorem fts_mem (h : Fts n xs w) (hr : xs[i]? = some r) : SlAt fateC 2 72 r.A r.p.fs w ∧ r.p.fs.length ≤ r.cap ∧ r.p.fs.length ≤ n := h r (List.mem_of_getElem? hr)
theorem Fts.le {m : Nat} (h : Fts n xs w) (hm : n ≤ m) : Fts m xs w := fun c hc => ⟨(h c hc).1, (h c hc).2.1, Nat.le_trans (h c hc).2.2 hm⟩
theorem Fts.adds (h : Fts n xs w) (k : Keeps (fun _ => False) w w') : Fts n xs w' := fun c hc => ⟨(h c hc).1.adds k, (h c hc).2⟩
end
def FtsO (n : Nat) (xs : List GCmd) (w : World) : Prop := ∀ c ∈ xs, OwAt fateC 2 72 c.A c.cap c.p.fs w ∧ c.p.fs.length ≤ n
section
variable {n : Nat} {xs ys : List GCmd} {w w' : World} {i : Nat} {r : GCmd} {S : Nat → Prop} {b : Nat}
theorem FtsO.fts (h : FtsO n xs w) : Fts n xs w := fun c hc => ⟨(h c hc).1.sl ekFate, SlAt.cell (h c hc).1, (h c hc).2⟩
theorem FtsO.keeps (h : FtsO n xs w) (k : Keeps S w w') (hn : ∀ i cur, w.heap[i]? = some (.cells cur 72 (0, 0)) → ¬ S i) : FtsO n xs w' := fun c hc => ⟨(h c hc).1.keeps k fun i hi => by
  rcases (h c hc).1.block with ⟨e, _⟩ | ⟨g, cur, e, hg, _⟩
  · rw [e] at hi; simp [blk] at hi
  · rw [e] at hi; simp only [blk, Option.map_some, Option.some.injEq] at hi; subst hi; exact hn _ _ hg, (h c hc).2⟩
theorem FtsO.adds (h : FtsO n xs w) (k : Keeps (fun _ => False) w w') : FtsO n xs w' := h.keeps k fun _ _ _ => id
theorem FtsO.nil : FtsO n [] w := fun c hc => by simp at hc
theorem FtsO.snoc (h : FtsO n xs w) (hr : OwAt fateC 2 72 r.A r.cap r.p.fs w) (hl : r.p.fs.length ≤ n) : FtsO n (xs ++ [r]) w := fun c hc => by
  rcases List.mem_append.1 hc with hc | hc
  · exact h c hc
  · rw [List.mem_singleton.1 hc]; exact ⟨hr, hl⟩
end
theorem mapU_end {xs ys : List GCmd} {i : Int} (h1 : (xs.length : Int) ≤ i) (hl : (xs.length : Int) = ys.length) (h : eqU (xs.map GCmd.p) (ys.map GCmd.p) i) : true = decide (xs.map GCmd.p = ys.map GCmd.p) := eqU_end (by simpa using h1) (by simpa using hl) h
theorem mapU_len {xs ys : List GCmd} (h : (xs.length : Int) ≠ ys.length) : false = decide (xs.map GCmd.p = ys.map GCmd.p) := eqU_len (by simpa using h)
theorem map_get {xs : List GCmd} {i : Nat} {r : GCmd} (h : xs[i]? = some r) : (xs.map GCmd.p)[i]? = some r.p := by rw [List.getElem?_map, h]; rfl
end Go.Proofs.YtoeinhlmkpgjhaaGreatDoor
namespace Go.Proofs.YtoeinhlmkpgjhaaGreatDoor
open Go.RowKit
set_option linter.unusedVariables false
set_option linter.unusedSimpArgs false
set_option maxRecDepth 100000 in
theorem u13Check_c (o : GOp) (w : World) : Calls Tryz.prog 52 #[o.val] w fun e w' => e = .returned (.bool (decide (GOp.ok o))) ∧ Adds w w' := by
  have K : Keeps (fun _ => False) w w := Keeps.refl _ w
  refine Calls.start Tryz.func52 rfl (by kernel_rfl) ?_
  refine WC.seq ?_
  refine WC.region ?_
  refine WL.new (d := 1) (T := 36) (Value.cells (GOp.val o)) (k := fun b1 w2 g3 hb4 k5 => ?_)
  have z6 := Nat.le_trans K.size g3
  replace K := K.trans (k5.any _)
  refine WL.op (d := 2) (.bool false) (k := ?_)
  refine WL.nil ?_
  refine WX.seqN ?_
  refine WC.seq ?_
  refine WC.seq ?_
  refine WC.quiet (k := ?_)
  refine WQ.load (v := GOp.val o) (fun w_ k_ => ldN (T := 36) (i := 0) (m := 10) (l := (Value.cells (GOp.val o)).toList) (k_.heap hb4 id)) (k := ?_)
  refine WQ.load (v := GOp.val o) (fun w_ k_ => ldN (T := 36) (i := 0) (m := 10) (l := (Value.cells (GOp.val o)).toList) (k_.heap hb4 id)) (k := ?_)
  refine WQ.callG (d := 6) (f := 68) (args := #[GOp.val o]) (v := GOp.val (GOp.bare o)) (fun w_ k_ => u13Bare_c o w_) addsR (k := ?_)
  refine WQ.bin (d := 7) (v := .bool (!(GOp.same o (GOp.bare o)))) (fun w_ => neqOpV o (GOp.bare o) w_) (k := ?_)
  refine WQ.op (d := 8) (.bool (!(GOp.same o (GOp.bare o)))) (k := ?_)
  refine bsplit (!(GOp.same o (GOp.bare o))) (fun h7 => ?_) (fun h7 => ?_)
  · have h8 : (GOp.same o (GOp.bare o)) = false := Bool.not_inj (y := false) h7
    refine WQ.rw (t := 8) (v := .bool true) (congrArg Value.bool h7) (k := ?_)
    refine WQ.skip (d := 9) (k := ?_)
    refine WQ.skip (d := 10) (k := ?_)
    refine WQ.skip (d := 11) (k := ?_)
    refine WQ.op (d := 12) (.bool true) (k := ?_)
    refine WQ.op (d := 13) (.bool true) (k := ?_)
    refine WQ.skip (d := 14) (k := ?_)
    refine WQ.skip (d := 15) (k := ?_)
    refine WQ.skip (d := 16) (k := ?_)
    refine WQ.op (d := 17) (.bool true) (k := ?_)
    refine WQ.nilX (fun w9 k10 => ?_)
    replace hb4 := k10.heap hb4 id
    replace K := K.trans (k10.any _)
    refine WX.seqN ?_
    refine WC.condT (k := ?_)
    refine WC.seq ?_
    refine WC.region ?_
    refine WL.op (d := 2) (.bool false) (k := ?_)
    refine WL.nil ?_
    refine WX.seqN ?_
    refine WC.ret ?_
    refine WX.seqR ?_
    refine WX.ret (rs := [.tmp 2]) [.bool false] (.bool false) ⟨(by kernel_rfl), trivial⟩ (k := ?_)
    exact ⟨ret_bool (ok_ne (same_false h8)), K⟩
  · have h11 : (GOp.same o (GOp.bare o)) = true := Bool.not_inj (y := true) h7
    refine WQ.rw (t := 8) (v := .bool false) (congrArg Value.bool h7) (k := ?_)
    refine WQ.op (d := 9) (.pointer (some ⟨b1, 7, none⟩)) (k := ?_)
    refine WQ.load (v := .int .i64 o.id) (fun w_ k_ => ld1 (T := 3) (i := 7) (k_.heap hb4 id)) (k := ?_)
    refine WQ.op (d := 11) (.bool (decide (o.id < 0))) (k := ?_)
    refine WQ.op (d := 12) (.bool (decide (o.id < 0))) (k := ?_)
    refine WQ.op (d := 13) (.bool (decide (o.id < 0))) (k := ?_)
    refine bsplit (decide (o.id < 0)) (fun h12 => ?_) (fun h12 => ?_)
    · have ph12 := of_decide_eq_true h12
      refine WQ.rw (t := 13) (v := .bool true) (congrArg Value.bool h12) (k := ?_)
      refine WQ.skip (d := 14) (k := ?_)
      refine WQ.skip (d := 15) (k := ?_)
      refine WQ.skip (d := 16) (k := ?_)
      refine WQ.op (d := 17) (.bool true) (k := ?_)
      refine WQ.nilX (fun w13 k14 => ?_)
      replace hb4 := k14.heap hb4 id
      replace K := K.trans (k14.any _)
      refine WX.seqN ?_
      refine WC.condT (k := ?_)
      refine WC.seq ?_
      refine WC.region ?_
      refine WL.op (d := 2) (.bool false) (k := ?_)
      refine WL.nil ?_
      refine WX.seqN ?_
      refine WC.ret ?_
      refine WX.seqR ?_
      refine WX.ret (rs := [.tmp 2]) [.bool false] (.bool false) ⟨(by kernel_rfl), trivial⟩ (k := ?_)
      exact ⟨ret_bool (ok_lo (same_true h11) ph12), K⟩
    · have ph12 := of_decide_eq_false h12
      refine WQ.rw (t := 13) (v := .bool false) (congrArg Value.bool h12) (k := ?_)
      refine WQ.op (d := 14) (.pointer (some ⟨b1, 7, none⟩)) (k := ?_)
      refine WQ.load (v := .int .i64 o.id) (fun w_ k_ => ld1 (T := 3) (i := 7) (k_.heap hb4 id)) (k := ?_)
      refine WQ.op (d := 16) (.bool (decide (o.id > 1023))) (k := ?_)
      refine WQ.op (d := 17) (.bool (decide (o.id > 1023))) (k := ?_)
      refine WQ.nilX (fun w15 k16 => ?_)
      replace hb4 := k16.heap hb4 id
      replace K := K.trans (k16.any _)
      refine WX.seqN ?_
      refine WC.cond (b := decide (o.id > 1023)) (ht := fun h17 => ?_) (hf := fun h17 => ?_)
      · have ph17 := of_decide_eq_true h17
        refine WC.seq ?_
        refine WC.region ?_
        refine WL.op (d := 2) (.bool false) (k := ?_)
        refine WL.nil ?_
        refine WX.seqN ?_
        refine WC.ret ?_
        refine WX.seqR ?_
        refine WX.ret (rs := [.tmp 2]) [.bool false] (.bool false) ⟨(by kernel_rfl), trivial⟩ (k := ?_)
        exact ⟨ret_bool (ok_hi (same_true h11) ph17), K⟩
      · have ph17 := of_decide_eq_false h17
        refine WC.skip ?_
        refine WX.seqN ?_
        refine WC.seq ?_
        refine WC.seq ?_
        refine WC.region ?_
        refine WL.op (d := 18) (.pointer (some ⟨b1, 0, none⟩)) (k := ?_)
        refine WL.load (v := .int .i64 o.kind) (ld1 (T := 3) (i := 0) hb4) (k := ?_)
        refine WL.nil ?_
        refine WX.seqN ?_
        refine WC.block ?_
        refine WC.seq ?_
        refine WC.region ?_
        refine WL.op (d := 21) (.bool (o.kind == 1)) (k := ?_)
        refine WL.op (d := 20) (.bool (o.kind == 1)) (k := ?_)
        refine WL.nil ?_
        refine WX.seqN ?_
        refine WC.cond (b := o.kind == 1) (ht := fun h18 => ?_) (hf := fun h18 => ?_)
        · have ph18 := eq_of_beq h18
          refine WC.seq ?_
          refine WC.region ?_
          refine WL.op (d := 22) (.pointer (some ⟨b1, 1, none⟩)) (k := ?_)
          refine WL.load (v := GTask.val o.task) (ldN (T := 29) (i := 1) (m := 5) (l := (Value.cells (GTask.val o.task)).toList) hb4) (k := ?_)
          refine WL.callG (d := 24) (f := 32) (args := #[GTask.val o.task]) (u09Check_c o.task w15) (k := fun e_ w19 h_ => ⟨.bool (decide (GTask.ok o.task)), h_.1, ?_⟩)
          have k20 := h_.2; clear h_
          replace hb4 := k20.heap hb4 id
          replace K := K.trans (k20.any _)
          refine WL.op (d := 3) (.bool (decide (GTask.ok o.task))) (k := ?_)
          refine WL.nil ?_
          refine WX.seqN ?_
          refine WC.seq ?_
          refine WC.region ?_
          refine WL.op (d := 25) (.bool (decide (GTask.ok o.task))) (k := ?_)
          refine WL.op (d := 26) (.bool (decide (GTask.ok o.task))) (k := ?_)
          refine bsplit (decide (GTask.ok o.task)) (fun h21 => ?_) (fun h21 => ?_)
          · have ph21 := of_decide_eq_true h21
            refine WL.rw (t := 26) (v := .bool true) (congrArg Value.bool h21) (k := ?_)
            refine WL.op (d := 27) (.pointer (some ⟨b1, 6, none⟩)) (k := ?_)
            refine WL.load (v := .bool o.sv) (ld1 (T := 4) (i := 6) hb4) (k := ?_)
            refine WL.op (d := 29) (.bool (!(o.sv))) (k := ?_)
            refine WL.op (d := 30) (.bool (!(o.sv))) (k := ?_)
            refine bsplit (!(o.sv)) (fun h22 => ?_) (fun h22 => ?_)
            · have h23 : (o.sv) = false := Bool.not_inj (y := false) h22
              refine WL.rw (t := 30) (v := .bool true) (congrArg Value.bool h22) (k := ?_)
              refine WL.skip (d := 31) (k := ?_)
              refine WL.skip (d := 32) (k := ?_)
              refine WL.skip (d := 33) (k := ?_)
              refine WL.skip (d := 34) (k := ?_)
              refine WL.skip (d := 35) (k := ?_)
              refine WL.skip (d := 36) (k := ?_)
              refine WL.skip (d := 37) (k := ?_)
              refine WL.op (d := 38) (.bool true) (k := ?_)
              refine WL.op (d := 39) (.bool true) (k := ?_)
              refine WL.op (d := 2) (.bool true) (k := ?_)
              refine WL.nil ?_
              refine WX.seqN ?_
              refine WC.ret ?_
              refine WX.blockR ?_
              refine WX.seqR ?_
              refine WX.ret (rs := [.tmp 2]) [.bool true] (.bool true) ⟨(by kernel_rfl), trivial⟩ (k := ?_)
              refine ⟨ret_bool ?_, K⟩
              rw [ok_eq (same_true h11), Bool.eq_iff_iff]
              simp [GOp.right, ph12, ph17, ph18, ph21, h23]
              try omega
            · have h24 : (o.sv) = true := Bool.not_inj (y := true) h22
              refine WL.rw (t := 30) (v := .bool false) (congrArg Value.bool h22) (k := ?_)
              refine WL.op (d := 31) (.pointer (some ⟨b1, 1, none⟩)) (k := ?_)
              refine WL.op (d := 32) (.pointer (some ⟨b1, 3, none⟩)) (k := ?_)
              refine WL.load (v := .int .i64 o.task.d) (ld1 (T := 2) (i := 3) hb4) (k := ?_)
              refine WL.op (d := 34) (.pointer (some ⟨b1, 1, none⟩)) (k := ?_)
              refine WL.op (d := 35) (.pointer (some ⟨b1, 4, none⟩)) (k := ?_)
              refine WL.load (v := .int .i64 o.task.t) (ld1 (T := 2) (i := 4) hb4) (k := ?_)
              refine WL.op (d := 37) (.bool (o.task.d == o.task.t)) (k := ?_)
              refine WL.op (d := 38) (.bool (o.task.d == o.task.t)) (k := ?_)
              refine WL.op (d := 39) (.bool (o.task.d == o.task.t)) (k := ?_)
              refine WL.op (d := 2) (.bool (o.task.d == o.task.t)) (k := ?_)
              refine WL.nil ?_
              refine WX.seqN ?_
              refine WC.ret ?_
              refine WX.blockR ?_
              refine WX.seqR ?_
              refine WX.ret (rs := [.tmp 2]) [.bool (o.task.d == o.task.t)] (.bool (o.task.d == o.task.t)) ⟨(by kernel_rfl), trivial⟩ (k := ?_)
              refine ⟨ret_bool ?_, K⟩
              rw [ok_eq (same_true h11), Bool.eq_iff_iff]
              simp [GOp.right, ph12, ph17, ph18, ph21, h24]
              try omega
          · have ph21 := of_decide_eq_false h21
            refine WL.rw (t := 26) (v := .bool false) (congrArg Value.bool h21) (k := ?_)
            refine WL.skip (d := 27) (k := ?_)
            refine WL.skip (d := 28) (k := ?_)
            refine WL.skip (d := 29) (k := ?_)
            refine WL.skip (d := 30) (k := ?_)
            refine WL.skip (d := 31) (k := ?_)
            refine WL.skip (d := 32) (k := ?_)
            refine WL.skip (d := 33) (k := ?_)
            refine WL.skip (d := 34) (k := ?_)
            refine WL.skip (d := 35) (k := ?_)
            refine WL.skip (d := 36) (k := ?_)
            refine WL.skip (d := 37) (k := ?_)
            refine WL.skip (d := 38) (k := ?_)
            refine WL.op (d := 39) (.bool false) (k := ?_)
            refine WL.op (d := 2) (.bool false) (k := ?_)
            refine WL.nil ?_
            refine WX.seqN ?_
            refine WC.ret ?_
            refine WX.blockR ?_
            refine WX.seqR ?_
            refine WX.ret (rs := [.tmp 2]) [.bool false] (.bool false) ⟨(by kernel_rfl), trivial⟩ (k := ?_)
            refine ⟨ret_bool ?_, K⟩
            rw [ok_eq (same_true h11), Bool.eq_iff_iff]
            simp [GOp.right, ph12, ph17, ph18, ph21]
            try omega
        · have ph18 := ne_of_beq_false h18
          refine WC.seq ?_
          refine WC.region ?_
          refine WL.op (d := 41) (.bool (o.kind == 2)) (k := ?_)
          refine WL.op (d := 40) (.bool (o.kind == 2)) (k := ?_)
          refine WL.nil ?_
          refine WX.seqN ?_
          refine WC.cond (b := o.kind == 2) (ht := fun h25 => ?_) (hf := fun h25 => ?_)
          · have ph25 := eq_of_beq h25
            refine WC.seq ?_
            refine WC.region ?_
            refine WL.op (d := 2) (.bool true) (k := ?_)
            refine WL.nil ?_
            refine WX.seqN ?_
            refine WC.ret ?_
            refine WX.blockR ?_
            refine WX.seqR ?_
            refine WX.ret (rs := [.tmp 2]) [.bool true] (.bool true) ⟨(by kernel_rfl), trivial⟩ (k := ?_)
            refine ⟨ret_bool ?_, K⟩
            rw [ok_eq (same_true h11), Bool.eq_iff_iff]
            simp [GOp.right, ph12, ph17, ph18, ph25]
            try omega
          · have ph25 := ne_of_beq_false h25
            refine WC.seq ?_
            refine WC.region ?_
            refine WL.op (d := 43) (.bool (o.kind == 3)) (k := ?_)
            refine WL.op (d := 42) (.bool (o.kind == 3)) (k := ?_)
            refine WL.nil ?_
            refine WX.seqN ?_
            refine WC.cond (b := o.kind == 3) (ht := fun h26 => ?_) (hf := fun h26 => ?_)
            · have ph26 := eq_of_beq h26
              refine WC.seq ?_
              refine WC.region ?_
              refine WL.op (d := 44) (.pointer (some ⟨b1, 8, none⟩)) (k := ?_)
              refine WL.load (v := .int .i64 o.c) (ld1 (T := 2) (i := 8) hb4) (k := ?_)
              refine WL.op (d := 46) (.bool (decide (o.c ≥ 1))) (k := ?_)
              refine WL.op (d := 47) (.bool (decide (o.c ≥ 1))) (k := ?_)
              refine bsplit (decide (o.c ≥ 1)) (fun h27 => ?_) (fun h27 => ?_)
              · have ph27 := of_decide_eq_true h27
                refine WL.rw (t := 47) (v := .bool true) (congrArg Value.bool h27) (k := ?_)
                refine WL.op (d := 48) (.pointer (some ⟨b1, 8, none⟩)) (k := ?_)
                refine WL.load (v := .int .i64 o.c) (ld1 (T := 2) (i := 8) hb4) (k := ?_)
                refine WL.op (d := 50) (.bool (decide (o.c ≤ 2147483648))) (k := ?_)
                refine WL.op (d := 51) (.bool (decide (o.c ≤ 2147483648))) (k := ?_)
                refine WL.op (d := 2) (.bool (decide (o.c ≤ 2147483648))) (k := ?_)
                refine WL.nil ?_
                refine WX.seqN ?_
                refine WC.ret ?_
                refine WX.blockR ?_
                refine WX.seqR ?_
                refine WX.ret (rs := [.tmp 2]) [.bool (decide (o.c ≤ 2147483648))] (.bool (decide (o.c ≤ 2147483648))) ⟨(by kernel_rfl), trivial⟩ (k := ?_)
                refine ⟨ret_bool ?_, K⟩
                rw [ok_eq (same_true h11), Bool.eq_iff_iff]
                simp [GOp.right, ph12, ph17, ph18, ph25, ph26, ph27]
                try omega
              · have ph27 := of_decide_eq_false h27
                refine WL.rw (t := 47) (v := .bool false) (congrArg Value.bool h27) (k := ?_)
                refine WL.skip (d := 48) (k := ?_)
                refine WL.skip (d := 49) (k := ?_)
                refine WL.skip (d := 50) (k := ?_)
                refine WL.op (d := 51) (.bool false) (k := ?_)
                refine WL.op (d := 2) (.bool false) (k := ?_)
                refine WL.nil ?_
                refine WX.seqN ?_
                refine WC.ret ?_
                refine WX.blockR ?_
                refine WX.seqR ?_
                refine WX.ret (rs := [.tmp 2]) [.bool false] (.bool false) ⟨(by kernel_rfl), trivial⟩ (k := ?_)
                refine ⟨ret_bool ?_, K⟩
                rw [ok_eq (same_true h11), Bool.eq_iff_iff]
                simp [GOp.right, ph12, ph17, ph18, ph25, ph26, ph27]
                try omega
            · have ph26 := ne_of_beq_false h26
              refine WC.seq ?_
              refine WC.region ?_
              refine WL.op (d := 53) (.bool (o.kind == 4)) (k := ?_)
              refine WL.op (d := 52) (.bool (o.kind == 4)) (k := ?_)
              refine WL.nil ?_
              refine WX.seqN ?_
              refine WC.cond (b := o.kind == 4) (ht := fun h28 => ?_) (hf := fun h28 => ?_)
              · have ph28 := eq_of_beq h28
                refine WC.seq ?_
                refine WC.region ?_
                refine WL.op (d := 54) (.pointer (some ⟨b1, 9, none⟩)) (k := ?_)
                refine WL.load (v := .int .i64 o.m) (ld1 (T := 3) (i := 9) hb4) (k := ?_)
                refine WL.op (d := 56) (.bool (decide (o.m ≥ 0))) (k := ?_)
                refine WL.op (d := 57) (.bool (decide (o.m ≥ 0))) (k := ?_)
                refine bsplit (decide (o.m ≥ 0)) (fun h29 => ?_) (fun h29 => ?_)
                · have ph29 := of_decide_eq_true h29
                  refine WL.rw (t := 57) (v := .bool true) (congrArg Value.bool h29) (k := ?_)
                  refine WL.op (d := 58) (.pointer (some ⟨b1, 9, none⟩)) (k := ?_)
                  refine WL.load (v := .int .i64 o.m) (ld1 (T := 3) (i := 9) hb4) (k := ?_)
                  refine WL.op (d := 60) (.bool (decide (o.m ≤ 3))) (k := ?_)
                  refine WL.op (d := 61) (.bool (decide (o.m ≤ 3))) (k := ?_)
                  refine WL.op (d := 2) (.bool (decide (o.m ≤ 3))) (k := ?_)
                  refine WL.nil ?_
                  refine WX.seqN ?_
                  refine WC.ret ?_
                  refine WX.blockR ?_
                  refine WX.seqR ?_
                  refine WX.ret (rs := [.tmp 2]) [.bool (decide (o.m ≤ 3))] (.bool (decide (o.m ≤ 3))) ⟨(by kernel_rfl), trivial⟩ (k := ?_)
                  refine ⟨ret_bool ?_, K⟩
                  rw [ok_eq (same_true h11), Bool.eq_iff_iff]
                  simp [GOp.right, ph12, ph17, ph18, ph25, ph26, ph28, ph29]
                  try omega
                · have ph29 := of_decide_eq_false h29
                  refine WL.rw (t := 57) (v := .bool false) (congrArg Value.bool h29) (k := ?_)
                  refine WL.skip (d := 58) (k := ?_)
                  refine WL.skip (d := 59) (k := ?_)
                  refine WL.skip (d := 60) (k := ?_)
                  refine WL.op (d := 61) (.bool false) (k := ?_)
                  refine WL.op (d := 2) (.bool false) (k := ?_)
                  refine WL.nil ?_
                  refine WX.seqN ?_
                  refine WC.ret ?_
                  refine WX.blockR ?_
                  refine WX.seqR ?_
                  refine WX.ret (rs := [.tmp 2]) [.bool false] (.bool false) ⟨(by kernel_rfl), trivial⟩ (k := ?_)
                  refine ⟨ret_bool ?_, K⟩
                  rw [ok_eq (same_true h11), Bool.eq_iff_iff]
                  simp [GOp.right, ph12, ph17, ph18, ph25, ph26, ph28, ph29]
                  try omega
              · have ph28 := ne_of_beq_false h28
                refine WC.skip ?_
                refine WX.blockN ?_
                refine WX.seqN ?_
                refine WC.seq ?_
                refine WC.region ?_
                refine WL.op (d := 2) (.bool false) (k := ?_)
                refine WL.nil ?_
                refine WX.seqN ?_
                refine WC.ret ?_
                refine WX.ret (rs := [.tmp 2]) [.bool false] (.bool false) ⟨(by kernel_rfl), trivial⟩ (k := ?_)
                refine ⟨ret_bool ?_, K⟩
                rw [ok_eq (same_true h11), Bool.eq_iff_iff]
                simp [GOp.right, ph12, ph17, ph18, ph25, ph26, ph28]
                try omega
end Go.Proofs.YtoeinhlmkpgjhaaGreatDoor
namespace Go.Proofs.YtoeinhlmkpgjhaaGreatDoor
open Go.RowKit
set_option linter.unusedVariables false
set_option linter.unusedSimpArgs false
end Go.Proofs.YtoeinhlmkpgjhaaGreatDoor
namespace Go.Proofs.YtoeinhlmkpgjhaaGreatDoor
open Go.RowKit
set_option linter.unusedVariables false
set_option linter.unusedSimpArgs false
set_option maxRecDepth 100000 in
theorem sEqualF_c {A B : Option Addr} {cp cq : Nat} {xs ys : List GFate} {w : World} (hA : SlAt fateC 2 72 A xs w) (hB : SlAt fateC 2 72 B ys w) (hn : xs.length ≤ 1000000000) (hm : ys.length ≤ 1000000000) : Calls Tryz.prog 70 #[.slice A xs.length cp, .slice B ys.length cq] w fun e w' => e = .returned (.bool (decide (xs = ys))) ∧ Adds w w' := by
  have K : Keeps (fun _ => False) w w := Keeps.refl _ w
  refine Calls.start Tryz.func70 rfl (by kernel_rfl) ?_
  refine WC.seq ?_
  refine WC.region ?_
  refine WL.op (d := 4) (.bool false) (k := ?_)
  refine WL.nil ?_
  refine WX.seqN ?_
  refine WC.seq ?_
  refine WC.seq ?_
  refine WC.region ?_
  refine WL.op (d := 6) (.slice A xs.length cp) (k := ?_)
  refine WL.op (d := 7) (.int .i64 (xs.length : Int)) (k := ?_)
  refine WL.op (d := 8) (.slice B ys.length cq) (k := ?_)
  refine WL.op (d := 9) (.int .i64 (ys.length : Int)) (k := ?_)
  refine WL.op (d := 10) (.bool ((xs.length : Int) != (ys.length : Int))) (k := ?_)
  refine WL.nil ?_
  refine WX.seqN ?_
  refine WC.cond (b := (xs.length : Int) != (ys.length : Int)) (ht := fun h1 => ?_) (hf := fun h1 => ?_)
  · have ph1 := bne_iff_ne.1 h1
    refine WC.seq ?_
    refine WC.region ?_
    refine WL.op (d := 4) (.bool false) (k := ?_)
    refine WL.nil ?_
    refine WX.seqN ?_
    refine WC.ret ?_
    refine WX.seqR ?_
    refine WX.ret (rs := [.tmp 4]) [.bool false] (.bool false) ⟨(by kernel_rfl), trivial⟩ (k := ?_)
    exact ⟨ret_bool (eqU_len (by omega)), K⟩
  · have ph1 := of_bne_false h1
    refine WC.skip ?_
    refine WX.seqN ?_
    refine WC.seq ?_
    refine WC.seq ?_
    refine WC.region ?_
    refine WL.op (d := 11) (.slice A xs.length cp) (k := ?_)
    refine WL.op (d := 12) (.int .i64 (xs.length : Int)) (k := ?_)
    refine WL.op (d := 13) (.int .i64 0) (k := ?_)
    refine WL.nil ?_
    refine WX.seqN ?_
    refine WC.block ?_
    refine WC.loop (ι := Int) (fun (i : Int) => [(0, .slice A xs.length cp), (1, .slice B ys.length cq), (6, .slice A xs.length cp), (7, .int .i64 (xs.length : Int)), (8, .slice B ys.length cq), (9, .int .i64 (ys.length : Int)), (10, .bool ((xs.length : Int) != (ys.length : Int))), (11, .slice A xs.length cp), (12, .int .i64 (xs.length : Int)), (13, .int .i64 i)]) (fun (i : Int) (w_ : World) => (Keeps (fun _ => False) w w_) ∧ (0 ≤ i) ∧ (i ≤ xs.length) ∧ (eqU xs ys i)) (fun (i : Int) => (xs.length - i).toNat) 0 ⟨(by kernel_rfl), (by kernel_rfl), (by kernel_rfl), (by kernel_rfl), (by kernel_rfl), (by kernel_rfl), (by kernel_rfl), (by kernel_rfl), (by kernel_rfl), (by kernel_rfl), trivial⟩ ⟨K, Int.le_refl 0, (by omega), eqU_zero _ _⟩ ?_
    rintro i w2 ⟨K, i0, i1, iu⟩
    refine WC.seq ?_
    refine WC.region ?_
    refine WL.op (d := 14) (.bool (decide (i < (xs.length : Int)))) (k := ?_)
    refine WL.nil ?_
    refine WX.seqN ?_
    refine WC.seq ?_
    refine WC.cond (b := decide (i < (xs.length : Int))) (ht := fun h3 => ?_) (hf := fun h3 => ?_)
    · have ph3 := of_decide_eq_true h3
      refine WC.skip ?_
      refine WX.seqN ?_
      refine WC.seq ?_
      refine WC.block ?_
      refine WC.seq ?_
      refine WC.region ?_
      refine WL.op (d := 15) (.int .i64 i) (k := ?_)
      refine WL.op (d := 5) (.int .i64 i) (k := ?_)
      refine WL.nil ?_
      refine WX.seqN ?_
      refine WC.seq ?_
      refine WC.quiet (k := ?_)
      refine WQ.op (d := 16) (.slice A xs.length cp) (k := ?_)
      refine WQ.op (d := 17) (.int .i64 i) (k := ?_)
      obtain ⟨b4, o5, r6, hr7, hA8, he9⟩ := SlAt.at hA (i := i) (by omega) (by omega)
      refine WQ.rw (t := 16) (v := .slice (some ⟨b4, o5, none⟩) xs.length cp) (congrArg (fun a => Value.slice a xs.length cp) hA8) (k := ?_)
      refine WQ.idx (T := 37) (E := 72) (m := 2) (b := b4) (o := o5) (len := xs.length) (cap := cp) (i := i) (kk := .i64) (d := 18) (by omega) (by omega) (k := ?_)
      refine WQ.rw (t := 16) (v := .slice A xs.length cp) (congrArg (fun a => Value.slice a xs.length cp) (Eq.symm hA8)) (k := ?_)
      refine WQ.load (v := GFate.val r6) (fun w_ k_ => ((he9.adds K).adds k_).ldW (T := 72)) (k := ?_)
      refine WQ.op (d := 20) (.slice B ys.length cq) (k := ?_)
      refine WQ.op (d := 21) (.int .i64 i) (k := ?_)
      obtain ⟨b10, o11, r12, hr13, hA14, he15⟩ := SlAt.at hB (i := i) (by omega) (by omega)
      refine WQ.rw (t := 20) (v := .slice (some ⟨b10, o11, none⟩) ys.length cq) (congrArg (fun a => Value.slice a ys.length cq) hA14) (k := ?_)
      refine WQ.idx (T := 37) (E := 72) (m := 2) (b := b10) (o := o11) (len := ys.length) (cap := cq) (i := i) (kk := .i64) (d := 22) (by omega) (by omega) (k := ?_)
      refine WQ.rw (t := 20) (v := .slice B ys.length cq) (congrArg (fun a => Value.slice a ys.length cq) (Eq.symm hA14)) (k := ?_)
      refine WQ.load (v := GFate.val r12) (fun w_ k_ => ((he15.adds K).adds k_).ldW (T := 72)) (k := ?_)
      refine WQ.bin (d := 24) (v := .bool (!(decide (r6 = r12)))) (fun w_ => neqFateV r6 r12 w_) (k := ?_)
      refine WQ.nilX (fun w16 k17 => ?_)
      replace K := K.trans (k17.any _)
      refine WX.seqN ?_
      refine WC.cond (b := !(decide (r6 = r12))) (ht := fun h18 => ?_) (hf := fun h18 => ?_)
      · have h19 : (decide (r6 = r12)) = false := Bool.not_inj (y := false) h18
        have ph19 := of_decide_eq_false h19
        refine WC.seq ?_
        refine WC.region ?_
        refine WL.op (d := 4) (.bool false) (k := ?_)
        refine WL.nil ?_
        refine WX.seqN ?_
        refine WC.ret ?_
        refine WX.blockR ?_
        refine WX.seqR ?_
        refine WX.seqR ?_
        refine WX.blockR ?_
        refine WX.seqR ?_
        refine WX.ret (rs := [.tmp 4]) [.bool false] (.bool false) ⟨(by kernel_rfl), trivial⟩ (k := ?_)
        exact ⟨ret_bool (eqU_bad hr7 hr13 ph19), K⟩
      · have h20 : (decide (r6 = r12)) = true := Bool.not_inj (y := true) h18
        have ph20 := of_decide_eq_true h20
        refine WC.skip ?_
        refine WX.blockN ?_
        refine WX.seqN ?_
        refine WC.region ?_
        refine WL.opE (d := 25) (.int .i64 (IntKind.i64.wrap (i + 1))) (v := .int .i64 (i + 1)) (congrArg (Value.int .i64) (IntWalk.i64_in _ (by omega))) (k := ?_)
        refine WL.op (d := 13) (.int .i64 (i + 1)) (k := ?_)
        refine WL.nil ?_
        refine WX.round (i + 1) (by show (xs.length - (i + 1)).toNat < (xs.length - i).toNat; omega) ⟨(by kernel_rfl), (by kernel_rfl), (by kernel_rfl), (by kernel_rfl), (by kernel_rfl), (by kernel_rfl), (by kernel_rfl), (by kernel_rfl), (by kernel_rfl), (by kernel_rfl), trivial⟩ ⟨K, (by omega), (by omega), (eqU_succ i0 iu hr7 hr13 ph20)⟩
    · have ph3 := of_decide_eq_false h3
      refine WC.exit ?_
      refine WX.seqE ?_
      refine WX.seqE ?_
      refine WX.blockE ?_
      refine WX.seqN ?_
      refine WC.seq ?_
      refine WC.region ?_
      refine WL.op (d := 4) (.bool true) (k := ?_)
      refine WL.nil ?_
      refine WX.seqN ?_
      refine WC.ret ?_
      refine WX.ret (rs := [.tmp 4]) [.bool true] (.bool true) ⟨(by kernel_rfl), trivial⟩ (k := ?_)
      exact ⟨ret_bool (eqU_end (i := i) (by omega) (by omega) iu), K⟩
set_option maxRecDepth 100000 in
theorem sWithin_c (x y : Int) (w : World) : Calls Tryz.prog 55 #[.int .i64 x, .int .i64 y] w fun e w' => e = .returned (.bool (decide (0 ≤ x ∧ x ≤ y))) ∧ Adds w w' := by
  have K : Keeps (fun _ => False) w w := Keeps.refl _ w
  refine Calls.start Tryz.func55 rfl (by kernel_rfl) ?_
  refine WC.seq ?_
  refine WC.region ?_
  refine WL.op (d := 4) (.bool false) (k := ?_)
  refine WL.nil ?_
  refine WX.seqN ?_
  refine WC.seq ?_
  refine WC.region ?_
  refine WL.op (d := 5) (.int .i64 x) (k := ?_)
  refine WL.op (d := 6) (.bool (decide (x ≥ 0))) (k := ?_)
  refine WL.op (d := 7) (.bool (decide (x ≥ 0))) (k := ?_)
  refine bsplit (decide (x ≥ 0)) (fun h1 => ?_) (fun h1 => ?_)
  · have ph1 := of_decide_eq_true h1
    refine WL.rw (t := 7) (v := .bool true) (congrArg Value.bool h1) (k := ?_)
    refine WL.op (d := 8) (.int .i64 x) (k := ?_)
    refine WL.op (d := 9) (.int .i64 y) (k := ?_)
    refine WL.op (d := 10) (.bool (decide (x ≤ y))) (k := ?_)
    refine WL.op (d := 11) (.bool (decide (x ≤ y))) (k := ?_)
    refine WL.op (d := 4) (.bool (decide (x ≤ y))) (k := ?_)
    refine WL.nil ?_
    refine WX.seqN ?_
    refine WC.ret ?_
    refine WX.ret (rs := [.tmp 4]) [.bool (decide (x ≤ y))] (.bool (decide (x ≤ y))) ⟨(by kernel_rfl), trivial⟩ (k := ?_)
    exact ⟨ret_bool (by rw [Bool.eq_iff_iff]; simp only [eq_self, decide_eq_true_eq, Bool.false_eq_true, Bool.true_eq_false, false_iff, true_iff, iff_true, iff_false, Bool.not_eq_true', decide_eq_false_iff_not, GFate.ok]; omega), K⟩
  have ph1 := of_decide_eq_false h1
  refine WL.rw (t := 7) (v := .bool false) (congrArg Value.bool h1) (k := ?_)
  refine WL.skip (d := 8) (k := ?_)
  refine WL.skip (d := 9) (k := ?_)
  refine WL.skip (d := 10) (k := ?_)
  refine WL.op (d := 11) (.bool false) (k := ?_)
  refine WL.op (d := 4) (.bool false) (k := ?_)
  refine WL.nil ?_
  refine WX.seqN ?_
  refine WC.ret ?_
  refine WX.ret (rs := [.tmp 4]) [.bool false] (.bool false) ⟨(by kernel_rfl), trivial⟩ (k := ?_)
  exact ⟨ret_bool (by rw [Bool.eq_iff_iff]; simp only [eq_self, decide_eq_true_eq, Bool.false_eq_true, Bool.true_eq_false, false_iff, true_iff, iff_true, iff_false, Bool.not_eq_true', decide_eq_false_iff_not, GFate.ok]; omega), K⟩
set_option maxRecDepth 100000 in
theorem sCheck1_c (f : GFate) (w : World) : Calls Tryz.prog 54 #[f.val] w fun e w' => e = .returned (.bool (!(decide f.ok))) ∧ Adds w w' := by
  have K : Keeps (fun _ => False) w w := Keeps.refl _ w
  refine Calls.start Tryz.func54 rfl (by kernel_rfl) ?_
  refine WC.seq ?_
  refine WC.region ?_
  refine WL.new (d := 1) (T := 72) (Value.cells (GFate.val f)) (k := fun b1 w2 g3 hb4 k5 => ?_)
  have z6 := Nat.le_trans K.size g3
  replace K := K.trans (k5.any _)
  refine WL.op (d := 2) (.bool false) (k := ?_)
  refine WL.nil ?_
  refine WX.seqN ?_
  refine WC.seq ?_
  refine WC.region ?_
  refine WL.op (d := 3) (.pointer (some ⟨b1, 0, none⟩)) (k := ?_)
  refine WL.load (v := .int .i64 f.kind) (ld1 (T := 3) (i := 0) hb4) (k := ?_)
  refine WL.callG (d := 5) (f := 55) (args := #[.int .i64 f.kind, .int .i64 2]) (sWithin_c f.kind 2 w2) (k := fun e_ w7 h_ => ⟨.bool (decide (0 ≤ f.kind ∧ f.kind ≤ 2)), h_.1, ?_⟩)
  have k8 := h_.2; clear h_
  replace hb4 := k8.heap hb4 id
  replace K := K.trans (k8.any _)
  refine WL.op (d := 6) (.bool (!(decide (0 ≤ f.kind ∧ f.kind ≤ 2)))) (k := ?_)
  refine WL.op (d := 7) (.bool (!(decide (0 ≤ f.kind ∧ f.kind ≤ 2)))) (k := ?_)
  refine bsplit (!(decide (0 ≤ f.kind ∧ f.kind ≤ 2))) (fun h9 => ?_) (fun h9 => ?_)
  · have h10 : (decide (0 ≤ f.kind ∧ f.kind ≤ 2)) = false := Bool.not_inj (y := false) h9
    have ph10 := of_decide_eq_false h10
    refine WL.rw (t := 7) (v := .bool true) (congrArg Value.bool h9) (k := ?_)
    refine WL.skip (d := 8) (k := ?_)
    refine WL.skip (d := 9) (k := ?_)
    refine WL.skip (d := 10) (k := ?_)
    refine WL.skip (d := 11) (k := ?_)
    refine WL.op (d := 12) (.bool true) (k := ?_)
    refine WL.op (d := 2) (.bool true) (k := ?_)
    refine WL.nil ?_
    refine WX.seqN ?_
    refine WC.ret ?_
    refine WX.ret (rs := [.tmp 2]) [.bool true] (.bool true) ⟨(by kernel_rfl), trivial⟩ (k := ?_)
    exact ⟨ret_bool (wrong_t (fun k => by simp only [GFate.ok] at k; omega)), K⟩
  have h11 : (decide (0 ≤ f.kind ∧ f.kind ≤ 2)) = true := Bool.not_inj (y := true) h9
  have ph11 := of_decide_eq_true h11
  refine WL.rw (t := 7) (v := .bool false) (congrArg Value.bool h9) (k := ?_)
  refine WL.op (d := 8) (.pointer (some ⟨b1, 1, none⟩)) (k := ?_)
  refine WL.load (v := .int .i64 f.at_) (ld1 (T := 3) (i := 1) hb4) (k := ?_)
  refine WL.callG (d := 10) (f := 55) (args := #[.int .i64 f.at_, .int .i64 64]) (sWithin_c f.at_ 64 w7) (k := fun e_ w12 h_ => ⟨.bool (decide (0 ≤ f.at_ ∧ f.at_ ≤ 64)), h_.1, ?_⟩)
  have k13 := h_.2; clear h_
  replace hb4 := k13.heap hb4 id
  replace K := K.trans (k13.any _)
  refine WL.op (d := 11) (.bool (!(decide (0 ≤ f.at_ ∧ f.at_ ≤ 64)))) (k := ?_)
  refine WL.op (d := 12) (.bool (!(decide (0 ≤ f.at_ ∧ f.at_ ≤ 64)))) (k := ?_)
  refine WL.op (d := 2) (.bool (!(decide (0 ≤ f.at_ ∧ f.at_ ≤ 64)))) (k := ?_)
  refine WL.nil ?_
  refine WX.seqN ?_
  refine WC.ret ?_
  refine WX.ret (rs := [.tmp 2]) [.bool (!(decide (0 ≤ f.at_ ∧ f.at_ ≤ 64)))] (.bool (!(decide (0 ≤ f.at_ ∧ f.at_ ≤ 64)))) ⟨(by kernel_rfl), trivial⟩ (k := ?_)
  exact ⟨ret_bool (wrong_e (by omega)), K⟩
set_option maxRecDepth 100000 in
theorem sIdxF_c {A : Option Addr} {cp : Nat} {xs : List GFate} {w : World} (hA : SlAt fateC 2 72 A xs w) (hn : xs.length ≤ 1000000000) : Calls Tryz.prog 73 #[.slice A xs.length cp, .func (.func 54) #[] #[]] w fun e w' => ∃ x : Int, e = .returned (.int .i64 x) ∧ decide (x ≥ 0) = !(okFs xs) ∧ Adds w w' := by
  have K : Keeps (fun _ => False) w w := Keeps.refl _ w
  refine Calls.start Tryz.func73 rfl (by kernel_rfl) ?_
  refine WC.seq ?_
  refine WC.region ?_
  refine WL.op (d := 4) (.int .i64 0) (k := ?_)
  refine WL.nil ?_
  refine WX.seqN ?_
  refine WC.seq ?_
  refine WC.seq ?_
  refine WC.region ?_
  refine WL.op (d := 6) (.slice A xs.length cp) (k := ?_)
  refine WL.op (d := 7) (.int .i64 (xs.length : Int)) (k := ?_)
  refine WL.op (d := 8) (.int .i64 0) (k := ?_)
  refine WL.nil ?_
  refine WX.seqN ?_
  refine WC.block ?_
  refine WC.loop (ι := Int) (fun (i : Int) => [(0, .slice A xs.length cp), (1, .func (.func 54) #[] #[]), (6, .slice A xs.length cp), (7, .int .i64 (xs.length : Int)), (8, .int .i64 i)]) (fun (i : Int) (w_ : World) => (Keeps (fun _ => False) w w_) ∧ (0 ≤ i) ∧ (i ≤ xs.length) ∧ (upF xs i)) (fun (i : Int) => (xs.length - i).toNat) 0 ⟨(by kernel_rfl), (by kernel_rfl), (by kernel_rfl), (by kernel_rfl), (by kernel_rfl), trivial⟩ ⟨K, Int.le_refl 0, (by omega), upF_zero _⟩ ?_
  rintro i w1 ⟨K, i0, i1, iu⟩
  refine WC.seq ?_
  refine WC.region ?_
  refine WL.op (d := 9) (.bool (decide (i < (xs.length : Int)))) (k := ?_)
  refine WL.nil ?_
  refine WX.seqN ?_
  refine WC.seq ?_
  refine WC.cond (b := decide (i < (xs.length : Int))) (ht := fun h2 => ?_) (hf := fun h2 => ?_)
  · have ph2 := of_decide_eq_true h2
    refine WC.skip ?_
    refine WX.seqN ?_
    refine WC.seq ?_
    refine WC.block ?_
    refine WC.seq ?_
    refine WC.region ?_
    refine WL.op (d := 10) (.int .i64 i) (k := ?_)
    refine WL.op (d := 5) (.int .i64 i) (k := ?_)
    refine WL.nil ?_
    refine WX.seqN ?_
    refine WC.seq ?_
    refine WC.region ?_
    refine WL.op (d := 11) (.func (.func 54) #[] #[]) (k := ?_)
    refine WL.op (d := 12) (.slice A xs.length cp) (k := ?_)
    refine WL.op (d := 13) (.int .i64 i) (k := ?_)
    obtain ⟨b3, o4, r5, hr6, hA7, he8⟩ := SlAt.at hA (i := i) (by omega) (by omega)
    refine WL.rw (t := 12) (v := .slice (some ⟨b3, o4, none⟩) xs.length cp) (congrArg (fun a => Value.slice a xs.length cp) hA7) (k := ?_)
    refine WL.idx (T := 37) (E := 72) (m := 2) (b := b3) (o := o4) (len := xs.length) (cap := cp) (i := i) (kk := .i64) (d := 14) (by omega) (by omega) (k := ?_)
    refine WL.rw (t := 12) (v := .slice A xs.length cp) (congrArg (fun a => Value.slice a xs.length cp) (Eq.symm hA7)) (k := ?_)
    refine WL.load (v := GFate.val r5) ((he8.adds K).ldW (T := 72)) (k := ?_)
    refine WL.callG (d := 16) (f := 54) (args := #[GFate.val r5]) (sCheck1_c r5 w1) (k := fun e_ w9 h_ => ⟨.bool (!(decide (GFate.ok r5))), h_.1, ?_⟩)
    have k10 := h_.2; clear h_
    replace K := K.trans (k10.any _)
    refine WL.nil ?_
    refine WX.seqN ?_
    refine WC.cond (b := !(decide (GFate.ok r5))) (ht := fun h11 => ?_) (hf := fun h11 => ?_)
    · have h12 : (decide (GFate.ok r5)) = false := Bool.not_inj (y := false) h11
      have ph12 := of_decide_eq_false h12
      refine WC.seq ?_
      refine WC.region ?_
      refine WL.op (d := 17) (.int .i64 i) (k := ?_)
      refine WL.op (d := 4) (.int .i64 i) (k := ?_)
      refine WL.nil ?_
      refine WX.seqN ?_
      refine WC.ret ?_
      refine WX.blockR ?_
      refine WX.seqR ?_
      refine WX.seqR ?_
      refine WX.blockR ?_
      refine WX.seqR ?_
      refine WX.ret (rs := [.tmp 4]) [.int .i64 i] (.int .i64 i) ⟨(by kernel_rfl), trivial⟩ (k := ?_)
      exact ⟨_, rfl, (by rw [okFs_bad hr6 ph12]; simpa using i0), K⟩
    · have h13 : (decide (GFate.ok r5)) = true := Bool.not_inj (y := true) h11
      have ph13 := of_decide_eq_true h13
      refine WC.skip ?_
      refine WX.blockN ?_
      refine WX.seqN ?_
      refine WC.region ?_
      refine WL.opE (d := 18) (.int .i64 (IntKind.i64.wrap (i + 1))) (v := .int .i64 (i + 1)) (congrArg (Value.int .i64) (IntWalk.i64_in _ (by omega))) (k := ?_)
      refine WL.op (d := 8) (.int .i64 (i + 1)) (k := ?_)
      refine WL.nil ?_
      refine WX.round (i + 1) (by show (xs.length - (i + 1)).toNat < (xs.length - i).toNat; omega) ⟨(by kernel_rfl), (by kernel_rfl), (by kernel_rfl), (by kernel_rfl), (by kernel_rfl), trivial⟩ ⟨K, (by omega), (by omega), (upF_succ i0 iu hr6 ph13)⟩
  · have ph2 := of_decide_eq_false h2
    refine WC.exit ?_
    refine WX.seqE ?_
    refine WX.seqE ?_
    refine WX.blockE ?_
    refine WX.seqN ?_
    refine WC.seq ?_
    refine WC.region ?_
    refine WL.op (d := 4) (.int .i64 (-1)) (k := ?_)
    refine WL.nil ?_
    refine WX.seqN ?_
    refine WC.ret ?_
    refine WX.ret (rs := [.tmp 4]) [.int .i64 (-1)] (.int .i64 (-1)) ⟨(by kernel_rfl), trivial⟩ (k := ?_)
    exact ⟨_, rfl, (by rw [okFs_end (i := i) (by omega) iu]; rfl), K⟩
set_option maxRecDepth 100000 in
theorem sContF_c {A : Option Addr} {cp : Nat} {xs : List GFate} {w : World} (hA : SlAt fateC 2 72 A xs w) (hn : xs.length ≤ 1000000000) : Calls Tryz.prog 59 #[.slice A xs.length cp, .func (.func 54) #[] #[]] w fun e w' => e = .returned (.bool (!(okFs xs))) ∧ Adds w w' := by
  have K : Keeps (fun _ => False) w w := Keeps.refl _ w
  refine Calls.start Tryz.func59 rfl (by kernel_rfl) ?_
  refine WC.seq ?_
  refine WC.region ?_
  refine WL.op (d := 4) (.bool false) (k := ?_)
  refine WL.nil ?_
  refine WX.seqN ?_
  refine WC.seq ?_
  refine WC.region ?_
  refine WL.op (d := 5) (.slice A xs.length cp) (k := ?_)
  refine WL.op (d := 6) (.func (.func 54) #[] #[]) (k := ?_)
  refine WL.callG (d := 7) (f := 73) (args := #[.slice A xs.length cp, .func (.func 54) #[] #[]]) (sIdxF_c (cp := cp) (hA.adds K) (by omega)) (k := fun e_ w1 h_ => ?_)
  obtain ⟨x2, rfl, hx3, k4⟩ := h_
  refine ⟨_, rfl, ?_⟩
  replace K := K.trans (k4.any _)
  refine WL.op (d := 8) (.bool (decide (x2 ≥ 0))) (k := ?_)
  refine WL.op (d := 4) (.bool (decide (x2 ≥ 0))) (k := ?_)
  refine WL.nil ?_
  refine WX.seqN ?_
  refine WC.ret ?_
  refine WX.ret (rs := [.tmp 4]) [.bool (decide (x2 ≥ 0))] (.bool (decide (x2 ≥ 0))) ⟨(by kernel_rfl), trivial⟩ (k := ?_)
  exact ⟨ret_bool hx3, K⟩
set_option maxRecDepth 100000 in
set_option maxHeartbeats 4000000 in
theorem sSame_c {x y : GCmd} {w : World} (ha : SlAt fateC 2 72 x.A x.p.fs w) (hb : SlAt fateC 2 72 y.A y.p.fs w) (la : x.p.fs.length ≤ 1000000000) (lb : y.p.fs.length ≤ 1000000000) : Calls Tryz.prog 56 #[x.val, y.val] w fun e w' => e = .returned (.bool (decide (x.p = y.p))) ∧ Adds w w' := by
  have K : Keeps (fun _ => False) w w := Keeps.refl _ w
  refine Calls.start Tryz.func56 rfl (by kernel_rfl) ?_
  refine WC.seq ?_
  refine WC.region ?_
  refine WL.new (d := 2) (T := 39) (Value.cells (GCmd.val x)) (k := fun b1 w2 g3 hb4 k5 => ?_)
  have z6 := Nat.le_trans K.size g3
  replace K := K.trans (k5.any _)
  refine WL.new (d := 3) (T := 39) (Value.cells (GCmd.val y)) (k := fun b7 w8 g9 hb10 k11 => ?_)
  have z12 := Nat.le_trans K.size g9
  have n13 : b1 ≠ b7 := Nat.ne_of_lt (Nat.lt_of_lt_of_le (lt_of_heap hb4) g9)
  replace hb4 := k11.heap hb4 id
  replace K := K.trans (k11.any _)
  refine WL.op (d := 4) (.bool false) (k := ?_)
  refine WL.nil ?_
  refine WX.seqN ?_
  refine WC.seq ?_
  refine WC.region ?_
  refine WL.op (d := 5) (.pointer (some ⟨b1, 0, none⟩)) (k := ?_)
  refine WL.load (v := .int .i64 x.p.kind) (ld1 (T := 3) (i := 0) hb4) (k := ?_)
  refine WL.op (d := 7) (.pointer (some ⟨b7, 0, none⟩)) (k := ?_)
  refine WL.load (v := .int .i64 y.p.kind) (ld1 (T := 3) (i := 0) hb10) (k := ?_)
  refine WL.op (d := 9) (.bool (x.p.kind == y.p.kind)) (k := ?_)
  refine WL.op (d := 10) (.bool (x.p.kind == y.p.kind)) (k := ?_)
  refine bsplit (x.p.kind == y.p.kind) (fun h14 => ?_) (fun h14 => ?_)
  · have ph14 := eq_of_beq h14
    refine WL.rw (t := 10) (v := .bool true) (congrArg Value.bool h14) (k := ?_)
    refine WL.op (d := 11) (.pointer (some ⟨b1, 1, none⟩)) (k := ?_)
    refine WL.load (v := GOp.val x.p.op) (ldN (T := 36) (i := 1) (m := 10) (l := (Value.cells (GOp.val x.p.op)).toList) hb4) (k := ?_)
    refine WL.op (d := 13) (.pointer (some ⟨b7, 1, none⟩)) (k := ?_)
    refine WL.load (v := GOp.val y.p.op) (ldN (T := 36) (i := 1) (m := 10) (l := (Value.cells (GOp.val y.p.op)).toList) hb10) (k := ?_)
    refine WL.bin (d := 15) (v := .bool (GOp.same x.p.op y.p.op)) (eqOpV x.p.op y.p.op _) (k := ?_)
    refine WL.op (d := 16) (.bool (GOp.same x.p.op y.p.op)) (k := ?_)
    refine WL.op (d := 17) (.bool (GOp.same x.p.op y.p.op)) (k := ?_)
    refine bsplit (GOp.same x.p.op y.p.op) (fun h15 => ?_) (fun h15 => ?_)
    · have ph15 := same_true h15
      refine WL.rw (t := 17) (v := .bool true) (congrArg Value.bool h15) (k := ?_)
      refine WL.op (d := 18) (.pointer (some ⟨b1, 11, none⟩)) (k := ?_)
      refine WL.load (v := .int .i64 x.p.id) (ld1 (T := 3) (i := 11) hb4) (k := ?_)
      refine WL.op (d := 20) (.pointer (some ⟨b7, 11, none⟩)) (k := ?_)
      refine WL.load (v := .int .i64 y.p.id) (ld1 (T := 3) (i := 11) hb10) (k := ?_)
      refine WL.op (d := 22) (.bool (x.p.id == y.p.id)) (k := ?_)
      refine WL.op (d := 23) (.bool (x.p.id == y.p.id)) (k := ?_)
      refine WL.op (d := 24) (.bool (x.p.id == y.p.id)) (k := ?_)
      refine bsplit (x.p.id == y.p.id) (fun h16 => ?_) (fun h16 => ?_)
      · have ph16 := eq_of_beq h16
        refine WL.rw (t := 24) (v := .bool true) (congrArg Value.bool h16) (k := ?_)
        refine WL.op (d := 25) (.pointer (some ⟨b1, 12, none⟩)) (k := ?_)
        refine WL.load (v := .int .i64 x.p.work) (ld1 (T := 2) (i := 12) hb4) (k := ?_)
        refine WL.op (d := 27) (.pointer (some ⟨b7, 12, none⟩)) (k := ?_)
        refine WL.load (v := .int .i64 y.p.work) (ld1 (T := 2) (i := 12) hb10) (k := ?_)
        refine WL.op (d := 29) (.bool (x.p.work == y.p.work)) (k := ?_)
        refine WL.op (d := 30) (.bool (x.p.work == y.p.work)) (k := ?_)
        refine WL.op (d := 31) (.bool (x.p.work == y.p.work)) (k := ?_)
        refine bsplit (x.p.work == y.p.work) (fun h17 => ?_) (fun h17 => ?_)
        · have ph17 := eq_of_beq h17
          refine WL.rw (t := 31) (v := .bool true) (congrArg Value.bool h17) (k := ?_)
          refine WL.op (d := 32) (.pointer (some ⟨b1, 13, none⟩)) (k := ?_)
          refine WL.load (v := .int .i64 x.p.n) (ld1 (T := 3) (i := 13) hb4) (k := ?_)
          refine WL.op (d := 34) (.pointer (some ⟨b7, 13, none⟩)) (k := ?_)
          refine WL.load (v := .int .i64 y.p.n) (ld1 (T := 3) (i := 13) hb10) (k := ?_)
          refine WL.op (d := 36) (.bool (x.p.n == y.p.n)) (k := ?_)
          refine WL.op (d := 37) (.bool (x.p.n == y.p.n)) (k := ?_)
          refine WL.op (d := 38) (.bool (x.p.n == y.p.n)) (k := ?_)
          refine bsplit (x.p.n == y.p.n) (fun h18 => ?_) (fun h18 => ?_)
          · have ph18 := eq_of_beq h18
            refine WL.rw (t := 38) (v := .bool true) (congrArg Value.bool h18) (k := ?_)
            refine WL.op (d := 39) (.pointer (some ⟨b1, 14, none⟩)) (k := ?_)
            refine WL.load (v := .slice x.A x.p.fs.length x.cap) (ld1 (T := 37) (i := 14) hb4) (k := ?_)
            refine WL.op (d := 41) (.pointer (some ⟨b7, 14, none⟩)) (k := ?_)
            refine WL.load (v := .slice y.A y.p.fs.length y.cap) (ld1 (T := 37) (i := 14) hb10) (k := ?_)
            refine WL.callG (d := 43) (f := 70) (args := #[.slice x.A x.p.fs.length x.cap, .slice y.A y.p.fs.length y.cap]) (sEqualF_c (cp := x.cap) (cq := y.cap) (ha.adds K) (hb.adds K) (by first | omega | (simp; omega)) (by first | omega | (simp; omega))) (k := fun e_ w19 h_ => ⟨.bool (decide (x.p.fs = y.p.fs)), h_.1, ?_⟩)
            have k20 := h_.2; clear h_
            replace hb4 := k20.heap hb4 id
            replace hb10 := k20.heap hb10 id
            replace K := K.trans (k20.any _)
            refine WL.op (d := 44) (.bool (decide (x.p.fs = y.p.fs))) (k := ?_)
            refine WL.op (d := 4) (.bool (decide (x.p.fs = y.p.fs))) (k := ?_)
            refine WL.nil ?_
            refine WX.seqN ?_
            refine WC.ret ?_
            refine WX.ret (rs := [.tmp 4]) [.bool (decide (x.p.fs = y.p.fs))] (.bool (decide (x.p.fs = y.p.fs))) ⟨(by kernel_rfl), trivial⟩ (k := ?_)
            exact ⟨ret_bool (same_fin ph14 h15 ph16 ph17 ph18), K⟩
          have ph18 := ne_of_beq_false h18
          refine WL.rw (t := 38) (v := .bool false) (congrArg Value.bool h18) (k := ?_)
          refine WL.skip (d := 39) (k := ?_)
          refine WL.skip (d := 40) (k := ?_)
          refine WL.skip (d := 41) (k := ?_)
          refine WL.skip (d := 42) (k := ?_)
          refine WL.skip (d := 43) (k := ?_)
          refine WL.op (d := 44) (.bool false) (k := ?_)
          refine WL.op (d := 4) (.bool false) (k := ?_)
          refine WL.nil ?_
          refine WX.seqN ?_
          refine WC.ret ?_
          refine WX.ret (rs := [.tmp 4]) [.bool false] (.bool false) ⟨(by kernel_rfl), trivial⟩ (k := ?_)
          exact ⟨ret_bool (same_ne fun e => ph18 (congrArg PCmd.n e)), K⟩
        have ph17 := ne_of_beq_false h17
        refine WL.rw (t := 31) (v := .bool false) (congrArg Value.bool h17) (k := ?_)
        refine WL.skip (d := 32) (k := ?_)
        refine WL.skip (d := 33) (k := ?_)
        refine WL.skip (d := 34) (k := ?_)
        refine WL.skip (d := 35) (k := ?_)
        refine WL.skip (d := 36) (k := ?_)
        refine WL.op (d := 37) (.bool false) (k := ?_)
        refine WL.op (d := 38) (.bool false) (k := ?_)
        refine WL.skip (d := 39) (k := ?_)
        refine WL.skip (d := 40) (k := ?_)
        refine WL.skip (d := 41) (k := ?_)
        refine WL.skip (d := 42) (k := ?_)
        refine WL.skip (d := 43) (k := ?_)
        refine WL.op (d := 44) (.bool false) (k := ?_)
        refine WL.op (d := 4) (.bool false) (k := ?_)
        refine WL.nil ?_
        refine WX.seqN ?_
        refine WC.ret ?_
        refine WX.ret (rs := [.tmp 4]) [.bool false] (.bool false) ⟨(by kernel_rfl), trivial⟩ (k := ?_)
        exact ⟨ret_bool (same_ne fun e => ph17 (congrArg PCmd.work e)), K⟩
      have ph16 := ne_of_beq_false h16
      refine WL.rw (t := 24) (v := .bool false) (congrArg Value.bool h16) (k := ?_)
      refine WL.skip (d := 25) (k := ?_)
      refine WL.skip (d := 26) (k := ?_)
      refine WL.skip (d := 27) (k := ?_)
      refine WL.skip (d := 28) (k := ?_)
      refine WL.skip (d := 29) (k := ?_)
      refine WL.op (d := 30) (.bool false) (k := ?_)
      refine WL.op (d := 31) (.bool false) (k := ?_)
      refine WL.skip (d := 32) (k := ?_)
      refine WL.skip (d := 33) (k := ?_)
      refine WL.skip (d := 34) (k := ?_)
      refine WL.skip (d := 35) (k := ?_)
      refine WL.skip (d := 36) (k := ?_)
      refine WL.op (d := 37) (.bool false) (k := ?_)
      refine WL.op (d := 38) (.bool false) (k := ?_)
      refine WL.skip (d := 39) (k := ?_)
      refine WL.skip (d := 40) (k := ?_)
      refine WL.skip (d := 41) (k := ?_)
      refine WL.skip (d := 42) (k := ?_)
      refine WL.skip (d := 43) (k := ?_)
      refine WL.op (d := 44) (.bool false) (k := ?_)
      refine WL.op (d := 4) (.bool false) (k := ?_)
      refine WL.nil ?_
      refine WX.seqN ?_
      refine WC.ret ?_
      refine WX.ret (rs := [.tmp 4]) [.bool false] (.bool false) ⟨(by kernel_rfl), trivial⟩ (k := ?_)
      exact ⟨ret_bool (same_ne fun e => ph16 (congrArg PCmd.id e)), K⟩
    have ph15 := same_false h15
    refine WL.rw (t := 17) (v := .bool false) (congrArg Value.bool h15) (k := ?_)
    refine WL.skip (d := 18) (k := ?_)
    refine WL.skip (d := 19) (k := ?_)
    refine WL.skip (d := 20) (k := ?_)
    refine WL.skip (d := 21) (k := ?_)
    refine WL.skip (d := 22) (k := ?_)
    refine WL.op (d := 23) (.bool false) (k := ?_)
    refine WL.op (d := 24) (.bool false) (k := ?_)
    refine WL.skip (d := 25) (k := ?_)
    refine WL.skip (d := 26) (k := ?_)
    refine WL.skip (d := 27) (k := ?_)
    refine WL.skip (d := 28) (k := ?_)
    refine WL.skip (d := 29) (k := ?_)
    refine WL.op (d := 30) (.bool false) (k := ?_)
    refine WL.op (d := 31) (.bool false) (k := ?_)
    refine WL.skip (d := 32) (k := ?_)
    refine WL.skip (d := 33) (k := ?_)
    refine WL.skip (d := 34) (k := ?_)
    refine WL.skip (d := 35) (k := ?_)
    refine WL.skip (d := 36) (k := ?_)
    refine WL.op (d := 37) (.bool false) (k := ?_)
    refine WL.op (d := 38) (.bool false) (k := ?_)
    refine WL.skip (d := 39) (k := ?_)
    refine WL.skip (d := 40) (k := ?_)
    refine WL.skip (d := 41) (k := ?_)
    refine WL.skip (d := 42) (k := ?_)
    refine WL.skip (d := 43) (k := ?_)
    refine WL.op (d := 44) (.bool false) (k := ?_)
    refine WL.op (d := 4) (.bool false) (k := ?_)
    refine WL.nil ?_
    refine WX.seqN ?_
    refine WC.ret ?_
    refine WX.ret (rs := [.tmp 4]) [.bool false] (.bool false) ⟨(by kernel_rfl), trivial⟩ (k := ?_)
    exact ⟨ret_bool (same_op h15), K⟩
  have ph14 := ne_of_beq_false h14
  refine WL.rw (t := 10) (v := .bool false) (congrArg Value.bool h14) (k := ?_)
  refine WL.skip (d := 11) (k := ?_)
  refine WL.skip (d := 12) (k := ?_)
  refine WL.skip (d := 13) (k := ?_)
  refine WL.skip (d := 14) (k := ?_)
  refine WL.skip (d := 15) (k := ?_)
  refine WL.op (d := 16) (.bool false) (k := ?_)
  refine WL.op (d := 17) (.bool false) (k := ?_)
  refine WL.skip (d := 18) (k := ?_)
  refine WL.skip (d := 19) (k := ?_)
  refine WL.skip (d := 20) (k := ?_)
  refine WL.skip (d := 21) (k := ?_)
  refine WL.skip (d := 22) (k := ?_)
  refine WL.op (d := 23) (.bool false) (k := ?_)
  refine WL.op (d := 24) (.bool false) (k := ?_)
  refine WL.skip (d := 25) (k := ?_)
  refine WL.skip (d := 26) (k := ?_)
  refine WL.skip (d := 27) (k := ?_)
  refine WL.skip (d := 28) (k := ?_)
  refine WL.skip (d := 29) (k := ?_)
  refine WL.op (d := 30) (.bool false) (k := ?_)
  refine WL.op (d := 31) (.bool false) (k := ?_)
  refine WL.skip (d := 32) (k := ?_)
  refine WL.skip (d := 33) (k := ?_)
  refine WL.skip (d := 34) (k := ?_)
  refine WL.skip (d := 35) (k := ?_)
  refine WL.skip (d := 36) (k := ?_)
  refine WL.op (d := 37) (.bool false) (k := ?_)
  refine WL.op (d := 38) (.bool false) (k := ?_)
  refine WL.skip (d := 39) (k := ?_)
  refine WL.skip (d := 40) (k := ?_)
  refine WL.skip (d := 41) (k := ?_)
  refine WL.skip (d := 42) (k := ?_)
  refine WL.skip (d := 43) (k := ?_)
  refine WL.op (d := 44) (.bool false) (k := ?_)
  refine WL.op (d := 4) (.bool false) (k := ?_)
  refine WL.nil ?_
  refine WX.seqN ?_
  refine WC.ret ?_
  refine WX.ret (rs := [.tmp 4]) [.bool false] (.bool false) ⟨(by kernel_rfl), trivial⟩ (k := ?_)
  exact ⟨ret_bool (same_ne fun e => ph14 (congrArg PCmd.kind e)), K⟩
set_option maxRecDepth 100000 in
set_option maxHeartbeats 4000000 in
theorem u23Same_c {x y : GCmd} {w : World} (ha : SlAt fateC 2 72 x.A x.p.fs w) (hb : SlAt fateC 2 72 y.A y.p.fs w) (la : x.p.fs.length ≤ 1000000000) (lb : y.p.fs.length ≤ 1000000000) : Calls Tryz.prog 27 #[x.val, y.val] w fun e w' => e = .returned (.bool (decide (x.p = y.p))) ∧ Adds w w' := by
  have K : Keeps (fun _ => False) w w := Keeps.refl _ w
  refine Calls.start Tryz.func27 rfl (by kernel_rfl) ?_
  refine WC.seq ?_
  refine WC.region ?_
  refine WL.new (d := 2) (T := 39) (Value.cells (GCmd.val x)) (k := fun b1 w2 g3 hb4 k5 => ?_)
  have z6 := Nat.le_trans K.size g3
  replace K := K.trans (k5.any _)
  refine WL.new (d := 3) (T := 39) (Value.cells (GCmd.val y)) (k := fun b7 w8 g9 hb10 k11 => ?_)
  have z12 := Nat.le_trans K.size g9
  have n13 : b1 ≠ b7 := Nat.ne_of_lt (Nat.lt_of_lt_of_le (lt_of_heap hb4) g9)
  replace hb4 := k11.heap hb4 id
  replace K := K.trans (k11.any _)
  refine WL.op (d := 4) (.bool false) (k := ?_)
  refine WL.nil ?_
  refine WX.seqN ?_
  refine WC.seq ?_
  refine WC.seq ?_
  refine WC.region ?_
  refine WL.op (d := 6) (.pointer (some ⟨b1, 14, none⟩)) (k := ?_)
  refine WL.load (v := .slice x.A x.p.fs.length x.cap) (ld1 (T := 37) (i := 14) hb4) (k := ?_)
  refine WL.op (d := 8) (.int .i64 (x.p.fs.length : Int)) (k := ?_)
  refine WL.op (d := 9) (.pointer (some ⟨b7, 14, none⟩)) (k := ?_)
  refine WL.load (v := .slice y.A y.p.fs.length y.cap) (ld1 (T := 37) (i := 14) hb10) (k := ?_)
  refine WL.op (d := 11) (.int .i64 (y.p.fs.length : Int)) (k := ?_)
  refine WL.op (d := 12) (.bool ((x.p.fs.length : Int) != (y.p.fs.length : Int))) (k := ?_)
  refine WL.nil ?_
  refine WX.seqN ?_
  refine WC.cond (b := (x.p.fs.length : Int) != (y.p.fs.length : Int)) (ht := fun h14 => ?_) (hf := fun h14 => ?_)
  · have ph14 := bne_iff_ne.1 h14
    refine WC.seq ?_
    refine WC.region ?_
    refine WL.op (d := 4) (.bool false) (k := ?_)
    refine WL.nil ?_
    refine WX.seqN ?_
    refine WC.ret ?_
    refine WX.seqR ?_
    refine WX.ret (rs := [.tmp 4]) [.bool false] (.bool false) ⟨(by kernel_rfl), trivial⟩ (k := ?_)
    exact ⟨ret_bool (same_ne fun e => of_decide_eq_false (Eq.symm (eqU_len (xs := x.p.fs) (ys := y.p.fs) (by omega))) (congrArg PCmd.fs e)), K⟩
  · have ph14 := of_bne_false h14
    refine WC.skip ?_
    refine WX.seqN ?_
    refine WC.seq ?_
    refine WC.seq ?_
    refine WC.region ?_
    refine WL.op (d := 5) (.int .i64 0) (k := ?_)
    refine WL.nil ?_
    refine WX.seqN ?_
    refine WC.block ?_
    refine WC.loop (ι := Int) (fun (i : Int) => [(0, GCmd.val x), (1, GCmd.val y), (2, .pointer (some ⟨b1, 0, none⟩)), (3, .pointer (some ⟨b7, 0, none⟩)), (6, .pointer (some ⟨b1, 14, none⟩)), (7, .slice x.A x.p.fs.length x.cap), (8, .int .i64 (x.p.fs.length : Int)), (9, .pointer (some ⟨b7, 14, none⟩)), (10, .slice y.A y.p.fs.length y.cap), (11, .int .i64 (y.p.fs.length : Int)), (12, .bool ((x.p.fs.length : Int) != (y.p.fs.length : Int))), (5, .int .i64 i)]) (fun (i : Int) (w_ : World) => (Keeps (fun _ => False) w w_) ∧ (w_.heap[b1]? = some (.cells (Value.cells (GCmd.val x)) 39 (0, 0))) ∧ (w_.heap[b7]? = some (.cells (Value.cells (GCmd.val y)) 39 (0, 0))) ∧ (0 ≤ i) ∧ (i ≤ x.p.fs.length) ∧ (eqU x.p.fs y.p.fs i)) (fun (i : Int) => (x.p.fs.length - i).toNat) 0 ⟨(by kernel_rfl), (by kernel_rfl), (by kernel_rfl), (by kernel_rfl), (by kernel_rfl), (by kernel_rfl), (by kernel_rfl), (by kernel_rfl), (by kernel_rfl), (by kernel_rfl), (by kernel_rfl), (by kernel_rfl), trivial⟩ ⟨K, hb4, hb10, Int.le_refl 0, (by omega), eqU_zero _ _⟩ ?_
    rintro i w15 ⟨K, hb16, hb17, i0, i1, iu⟩
    refine WC.seq ?_
    refine WC.seq ?_
    refine WC.region ?_
    refine WL.op (d := 13) (.int .i64 i) (k := ?_)
    refine WL.op (d := 14) (.pointer (some ⟨b1, 14, none⟩)) (k := ?_)
    refine WL.load (v := .slice x.A x.p.fs.length x.cap) (ld1 (T := 37) (i := 14) hb16) (k := ?_)
    refine WL.op (d := 16) (.int .i64 (x.p.fs.length : Int)) (k := ?_)
    refine WL.op (d := 17) (.bool (decide (i < (x.p.fs.length : Int)))) (k := ?_)
    refine WL.nil ?_
    refine WX.seqN ?_
    refine WC.cond (b := decide (i < (x.p.fs.length : Int))) (ht := fun h18 => ?_) (hf := fun h18 => ?_)
    · have ph18 := of_decide_eq_true h18
      refine WC.skip ?_
      refine WX.seqN ?_
      refine WC.seq ?_
      refine WC.block ?_
      refine WC.seq ?_
      refine WC.quiet (k := ?_)
      refine WQ.op (d := 20) (.pointer (some ⟨b1, 14, none⟩)) (k := ?_)
      refine WQ.load (v := .slice x.A x.p.fs.length x.cap) (fun w_ k_ => ld1 (T := 37) (i := 14) (k_.heap hb16 id)) (k := ?_)
      refine WQ.op (d := 22) (.int .i64 i) (k := ?_)
      obtain ⟨b19, o20, r21, hr22, hA23, he24⟩ := SlAt.at ha (i := i) (by omega) (by omega)
      refine WQ.rw (t := 21) (v := .slice (some ⟨b19, o20, none⟩) x.p.fs.length x.cap) (congrArg (fun a => Value.slice a x.p.fs.length x.cap) hA23) (k := ?_)
      refine WQ.idx (T := 37) (E := 72) (m := 2) (b := b19) (o := o20) (len := x.p.fs.length) (cap := x.cap) (i := i) (kk := .i64) (d := 23) (by omega) (by omega) (k := ?_)
      refine WQ.rw (t := 21) (v := .slice x.A x.p.fs.length x.cap) (congrArg (fun a => Value.slice a x.p.fs.length x.cap) (Eq.symm hA23)) (k := ?_)
      refine WQ.load (v := GFate.val r21) (fun w_ k_ => ((he24.adds K).adds k_).ldW (T := 72)) (k := ?_)
      refine WQ.op (d := 25) (.pointer (some ⟨b7, 14, none⟩)) (k := ?_)
      refine WQ.load (v := .slice y.A y.p.fs.length y.cap) (fun w_ k_ => ld1 (T := 37) (i := 14) (k_.heap hb17 id)) (k := ?_)
      refine WQ.op (d := 27) (.int .i64 i) (k := ?_)
      obtain ⟨b25, o26, r27, hr28, hA29, he30⟩ := SlAt.at hb (i := i) (by omega) (by omega)
      refine WQ.rw (t := 26) (v := .slice (some ⟨b25, o26, none⟩) y.p.fs.length y.cap) (congrArg (fun a => Value.slice a y.p.fs.length y.cap) hA29) (k := ?_)
      refine WQ.idx (T := 37) (E := 72) (m := 2) (b := b25) (o := o26) (len := y.p.fs.length) (cap := y.cap) (i := i) (kk := .i64) (d := 28) (by omega) (by omega) (k := ?_)
      refine WQ.rw (t := 26) (v := .slice y.A y.p.fs.length y.cap) (congrArg (fun a => Value.slice a y.p.fs.length y.cap) (Eq.symm hA29)) (k := ?_)
      refine WQ.load (v := GFate.val r27) (fun w_ k_ => ((he30.adds K).adds k_).ldW (T := 72)) (k := ?_)
      refine WQ.bin (d := 30) (v := .bool (!(decide (r21 = r27)))) (fun w_ => neqFateV r21 r27 w_) (k := ?_)
      refine WQ.nilX (fun w31 k32 => ?_)
      replace hb16 := k32.heap hb16 id
      replace hb17 := k32.heap hb17 id
      replace K := K.trans (k32.any _)
      refine WX.seqN ?_
      refine WC.cond (b := !(decide (r21 = r27))) (ht := fun h33 => ?_) (hf := fun h33 => ?_)
      · have h34 : (decide (r21 = r27)) = false := Bool.not_inj (y := false) h33
        have ph34 := of_decide_eq_false h34
        refine WC.seq ?_
        refine WC.region ?_
        refine WL.op (d := 4) (.bool false) (k := ?_)
        refine WL.nil ?_
        refine WX.seqN ?_
        refine WC.ret ?_
        refine WX.blockR ?_
        refine WX.seqR ?_
        refine WX.seqR ?_
        refine WX.blockR ?_
        refine WX.seqR ?_
        refine WX.ret (rs := [.tmp 4]) [.bool false] (.bool false) ⟨(by kernel_rfl), trivial⟩ (k := ?_)
        exact ⟨ret_bool (same_ne fun e => of_decide_eq_false (Eq.symm (eqU_bad hr22 hr28 ph34)) (congrArg PCmd.fs e)), K⟩
      · have h35 : (decide (r21 = r27)) = true := Bool.not_inj (y := true) h33
        have ph35 := of_decide_eq_true h35
        refine WC.skip ?_
        refine WX.blockN ?_
        refine WX.seqN ?_
        refine WC.region ?_
        refine WL.op (d := 18) (.int .i64 i) (k := ?_)
        refine WL.opE (d := 19) (.int .i64 (IntKind.i64.wrap (i + 1))) (v := .int .i64 (i + 1)) (congrArg (Value.int .i64) (IntWalk.i64_in _ (by omega))) (k := ?_)
        refine WL.op (d := 5) (.int .i64 (i + 1)) (k := ?_)
        refine WL.nil ?_
        refine WX.round (i + 1) (by show (x.p.fs.length - (i + 1)).toNat < (x.p.fs.length - i).toNat; omega) ⟨(by kernel_rfl), (by kernel_rfl), (by kernel_rfl), (by kernel_rfl), (by kernel_rfl), (by kernel_rfl), (by kernel_rfl), (by kernel_rfl), (by kernel_rfl), (by kernel_rfl), (by kernel_rfl), (by kernel_rfl), trivial⟩ ⟨K, hb16, hb17, (by omega), (by omega), (eqU_succ i0 iu hr22 hr28 ph35)⟩
    · have ph18 := of_decide_eq_false h18
      refine WC.exit ?_
      refine WX.seqE ?_
      refine WX.seqE ?_
      refine WX.blockE ?_
      refine WX.seqN ?_
      refine WC.seq ?_
      refine WC.region ?_
      refine WL.op (d := 31) (.pointer (some ⟨b1, 0, none⟩)) (k := ?_)
      refine WL.load (v := .int .i64 x.p.kind) (ld1 (T := 3) (i := 0) hb16) (k := ?_)
      refine WL.op (d := 33) (.pointer (some ⟨b7, 0, none⟩)) (k := ?_)
      refine WL.load (v := .int .i64 y.p.kind) (ld1 (T := 3) (i := 0) hb17) (k := ?_)
      refine WL.op (d := 35) (.bool (x.p.kind == y.p.kind)) (k := ?_)
      refine WL.op (d := 36) (.bool (x.p.kind == y.p.kind)) (k := ?_)
      refine bsplit (x.p.kind == y.p.kind) (fun h36 => ?_) (fun h36 => ?_)
      · have ph36 := eq_of_beq h36
        refine WL.rw (t := 36) (v := .bool true) (congrArg Value.bool h36) (k := ?_)
        refine WL.op (d := 37) (.pointer (some ⟨b1, 1, none⟩)) (k := ?_)
        refine WL.load (v := GOp.val x.p.op) (ldN (T := 36) (i := 1) (m := 10) (l := (Value.cells (GOp.val x.p.op)).toList) hb16) (k := ?_)
        refine WL.op (d := 39) (.pointer (some ⟨b7, 1, none⟩)) (k := ?_)
        refine WL.load (v := GOp.val y.p.op) (ldN (T := 36) (i := 1) (m := 10) (l := (Value.cells (GOp.val y.p.op)).toList) hb17) (k := ?_)
        refine WL.bin (d := 41) (v := .bool (GOp.same x.p.op y.p.op)) (eqOpV x.p.op y.p.op _) (k := ?_)
        refine WL.op (d := 42) (.bool (GOp.same x.p.op y.p.op)) (k := ?_)
        refine WL.op (d := 43) (.bool (GOp.same x.p.op y.p.op)) (k := ?_)
        refine bsplit (GOp.same x.p.op y.p.op) (fun h37 => ?_) (fun h37 => ?_)
        · have ph37 := same_true h37
          refine WL.rw (t := 43) (v := .bool true) (congrArg Value.bool h37) (k := ?_)
          refine WL.op (d := 44) (.pointer (some ⟨b1, 11, none⟩)) (k := ?_)
          refine WL.load (v := .int .i64 x.p.id) (ld1 (T := 3) (i := 11) hb16) (k := ?_)
          refine WL.op (d := 46) (.pointer (some ⟨b7, 11, none⟩)) (k := ?_)
          refine WL.load (v := .int .i64 y.p.id) (ld1 (T := 3) (i := 11) hb17) (k := ?_)
          refine WL.op (d := 48) (.bool (x.p.id == y.p.id)) (k := ?_)
          refine WL.op (d := 49) (.bool (x.p.id == y.p.id)) (k := ?_)
          refine WL.op (d := 50) (.bool (x.p.id == y.p.id)) (k := ?_)
          refine bsplit (x.p.id == y.p.id) (fun h38 => ?_) (fun h38 => ?_)
          · have ph38 := eq_of_beq h38
            refine WL.rw (t := 50) (v := .bool true) (congrArg Value.bool h38) (k := ?_)
            refine WL.op (d := 51) (.pointer (some ⟨b1, 12, none⟩)) (k := ?_)
            refine WL.load (v := .int .i64 x.p.work) (ld1 (T := 2) (i := 12) hb16) (k := ?_)
            refine WL.op (d := 53) (.pointer (some ⟨b7, 12, none⟩)) (k := ?_)
            refine WL.load (v := .int .i64 y.p.work) (ld1 (T := 2) (i := 12) hb17) (k := ?_)
            refine WL.op (d := 55) (.bool (x.p.work == y.p.work)) (k := ?_)
            refine WL.op (d := 56) (.bool (x.p.work == y.p.work)) (k := ?_)
            refine WL.op (d := 57) (.bool (x.p.work == y.p.work)) (k := ?_)
            refine bsplit (x.p.work == y.p.work) (fun h39 => ?_) (fun h39 => ?_)
            · have ph39 := eq_of_beq h39
              refine WL.rw (t := 57) (v := .bool true) (congrArg Value.bool h39) (k := ?_)
              refine WL.op (d := 58) (.pointer (some ⟨b1, 13, none⟩)) (k := ?_)
              refine WL.load (v := .int .i64 x.p.n) (ld1 (T := 3) (i := 13) hb16) (k := ?_)
              refine WL.op (d := 60) (.pointer (some ⟨b7, 13, none⟩)) (k := ?_)
              refine WL.load (v := .int .i64 y.p.n) (ld1 (T := 3) (i := 13) hb17) (k := ?_)
              refine WL.op (d := 62) (.bool (x.p.n == y.p.n)) (k := ?_)
              refine WL.op (d := 63) (.bool (x.p.n == y.p.n)) (k := ?_)
              refine WL.op (d := 4) (.bool (x.p.n == y.p.n)) (k := ?_)
              refine WL.nil ?_
              refine WX.seqN ?_
              refine WC.ret ?_
              refine WX.ret (rs := [.tmp 4]) [.bool (x.p.n == y.p.n)] (.bool (x.p.n == y.p.n)) ⟨(by kernel_rfl), trivial⟩ (k := ?_)
              exact ⟨ret_bool (same_fin2 ph36 h37 ph38 ph39 (of_decide_eq_true (Eq.symm (eqU_end (i := i) (by omega) (by omega) iu)))), K⟩
            have ph39 := ne_of_beq_false h39
            refine WL.rw (t := 57) (v := .bool false) (congrArg Value.bool h39) (k := ?_)
            refine WL.skip (d := 58) (k := ?_)
            refine WL.skip (d := 59) (k := ?_)
            refine WL.skip (d := 60) (k := ?_)
            refine WL.skip (d := 61) (k := ?_)
            refine WL.skip (d := 62) (k := ?_)
            refine WL.op (d := 63) (.bool false) (k := ?_)
            refine WL.op (d := 4) (.bool false) (k := ?_)
            refine WL.nil ?_
            refine WX.seqN ?_
            refine WC.ret ?_
            refine WX.ret (rs := [.tmp 4]) [.bool false] (.bool false) ⟨(by kernel_rfl), trivial⟩ (k := ?_)
            exact ⟨ret_bool (same_ne fun e => ph39 (congrArg PCmd.work e)), K⟩
          have ph38 := ne_of_beq_false h38
          refine WL.rw (t := 50) (v := .bool false) (congrArg Value.bool h38) (k := ?_)
          refine WL.skip (d := 51) (k := ?_)
          refine WL.skip (d := 52) (k := ?_)
          refine WL.skip (d := 53) (k := ?_)
          refine WL.skip (d := 54) (k := ?_)
          refine WL.skip (d := 55) (k := ?_)
          refine WL.op (d := 56) (.bool false) (k := ?_)
          refine WL.op (d := 57) (.bool false) (k := ?_)
          refine WL.skip (d := 58) (k := ?_)
          refine WL.skip (d := 59) (k := ?_)
          refine WL.skip (d := 60) (k := ?_)
          refine WL.skip (d := 61) (k := ?_)
          refine WL.skip (d := 62) (k := ?_)
          refine WL.op (d := 63) (.bool false) (k := ?_)
          refine WL.op (d := 4) (.bool false) (k := ?_)
          refine WL.nil ?_
          refine WX.seqN ?_
          refine WC.ret ?_
          refine WX.ret (rs := [.tmp 4]) [.bool false] (.bool false) ⟨(by kernel_rfl), trivial⟩ (k := ?_)
          exact ⟨ret_bool (same_ne fun e => ph38 (congrArg PCmd.id e)), K⟩
        have ph37 := same_false h37
        refine WL.rw (t := 43) (v := .bool false) (congrArg Value.bool h37) (k := ?_)
        refine WL.skip (d := 44) (k := ?_)
        refine WL.skip (d := 45) (k := ?_)
        refine WL.skip (d := 46) (k := ?_)
        refine WL.skip (d := 47) (k := ?_)
        refine WL.skip (d := 48) (k := ?_)
        refine WL.op (d := 49) (.bool false) (k := ?_)
        refine WL.op (d := 50) (.bool false) (k := ?_)
        refine WL.skip (d := 51) (k := ?_)
        refine WL.skip (d := 52) (k := ?_)
        refine WL.skip (d := 53) (k := ?_)
        refine WL.skip (d := 54) (k := ?_)
        refine WL.skip (d := 55) (k := ?_)
        refine WL.op (d := 56) (.bool false) (k := ?_)
        refine WL.op (d := 57) (.bool false) (k := ?_)
        refine WL.skip (d := 58) (k := ?_)
        refine WL.skip (d := 59) (k := ?_)
        refine WL.skip (d := 60) (k := ?_)
        refine WL.skip (d := 61) (k := ?_)
        refine WL.skip (d := 62) (k := ?_)
        refine WL.op (d := 63) (.bool false) (k := ?_)
        refine WL.op (d := 4) (.bool false) (k := ?_)
        refine WL.nil ?_
        refine WX.seqN ?_
        refine WC.ret ?_
        refine WX.ret (rs := [.tmp 4]) [.bool false] (.bool false) ⟨(by kernel_rfl), trivial⟩ (k := ?_)
        exact ⟨ret_bool (same_op h37), K⟩
      have ph36 := ne_of_beq_false h36
      refine WL.rw (t := 36) (v := .bool false) (congrArg Value.bool h36) (k := ?_)
      refine WL.skip (d := 37) (k := ?_)
      refine WL.skip (d := 38) (k := ?_)
      refine WL.skip (d := 39) (k := ?_)
      refine WL.skip (d := 40) (k := ?_)
      refine WL.skip (d := 41) (k := ?_)
      refine WL.op (d := 42) (.bool false) (k := ?_)
      refine WL.op (d := 43) (.bool false) (k := ?_)
      refine WL.skip (d := 44) (k := ?_)
      refine WL.skip (d := 45) (k := ?_)
      refine WL.skip (d := 46) (k := ?_)
      refine WL.skip (d := 47) (k := ?_)
      refine WL.skip (d := 48) (k := ?_)
      refine WL.op (d := 49) (.bool false) (k := ?_)
      refine WL.op (d := 50) (.bool false) (k := ?_)
      refine WL.skip (d := 51) (k := ?_)
      refine WL.skip (d := 52) (k := ?_)
      refine WL.skip (d := 53) (k := ?_)
      refine WL.skip (d := 54) (k := ?_)
      refine WL.skip (d := 55) (k := ?_)
      refine WL.op (d := 56) (.bool false) (k := ?_)
      refine WL.op (d := 57) (.bool false) (k := ?_)
      refine WL.skip (d := 58) (k := ?_)
      refine WL.skip (d := 59) (k := ?_)
      refine WL.skip (d := 60) (k := ?_)
      refine WL.skip (d := 61) (k := ?_)
      refine WL.skip (d := 62) (k := ?_)
      refine WL.op (d := 63) (.bool false) (k := ?_)
      refine WL.op (d := 4) (.bool false) (k := ?_)
      refine WL.nil ?_
      refine WX.seqN ?_
      refine WC.ret ?_
      refine WX.ret (rs := [.tmp 4]) [.bool false] (.bool false) ⟨(by kernel_rfl), trivial⟩ (k := ?_)
      exact ⟨ret_bool (same_ne fun e => ph36 (congrArg PCmd.kind e)), K⟩
set_option maxRecDepth 100000 in
set_option maxHeartbeats 4000000 in
theorem sBare_c (c : GCmd) (w : World) : Calls Tryz.prog 57 #[c.val] w fun e w' => e = .returned (GCmd.bare c).val ∧ Adds w w' := by
  have K : Keeps (fun _ => False) w w := Keeps.refl _ w
  refine Calls.start Tryz.func57 rfl (by kernel_rfl) ?_
  refine WC.seq ?_
  refine WC.region ?_
  refine WL.new (d := 1) (T := 39) (Value.cells (GCmd.val c)) (k := fun b1 w2 g3 hb4 k5 => ?_)
  have z6 := Nat.le_trans K.size g3
  replace K := K.trans (k5.any _)
  refine WL.new (d := 2) (T := 39) #[.int .i64 0, .int .i64 0, .int .i64 0, .int .i64 0, .int .i64 0, .int .i64 0, .int .i64 0, .bool false, .int .i64 0, .int .i64 0, .int .i64 0, .int .i64 0, .int .i64 0, .int .i64 0, .slice none 0 0] (k := fun b7 w8 g9 hb10 k11 => ?_)
  have z12 := Nat.le_trans K.size g9
  have n13 : b1 ≠ b7 := Nat.ne_of_lt (Nat.lt_of_lt_of_le (lt_of_heap hb4) g9)
  replace hb4 := k11.heap hb4 id
  replace K := K.trans (k11.any _)
  refine WL.nil ?_
  refine WX.seqN ?_
  refine WC.seq ?_
  refine WC.seq ?_
  refine WC.region ?_
  refine WL.op (d := 3) (.pointer (some ⟨b1, 0, none⟩)) (k := ?_)
  refine WL.load (v := .int .i64 c.p.kind) (ld1 (T := 3) (i := 0) hb4) (k := ?_)
  refine WL.nil ?_
  refine WX.seqN ?_
  refine WC.block ?_
  refine WC.seq ?_
  refine WC.region ?_
  refine WL.op (d := 6) (.bool (c.p.kind == 1)) (k := ?_)
  refine WL.op (d := 5) (.bool (c.p.kind == 1)) (k := ?_)
  refine WL.nil ?_
  refine WX.seqN ?_
  refine WC.cond (b := c.p.kind == 1) (ht := fun h14 => ?_) (hf := fun h14 => ?_)
  · have ph14 := eq_of_beq h14
    refine WC.seq ?_
    refine WC.region ?_
    refine WL.op (d := 7) (.pointer (some ⟨b1, 0, none⟩)) (k := ?_)
    refine WL.load (v := .int .i64 c.p.kind) (ld1 (T := 3) (i := 0) hb4) (k := ?_)
    refine WL.op (d := 9) (.pointer (some ⟨b1, 1, none⟩)) (k := ?_)
    refine WL.load (v := GOp.val c.p.op) (ldN (T := 36) (i := 1) (m := 10) (l := (Value.cells (GOp.val c.p.op)).toList) hb4) (k := ?_)
    refine WL.op (d := 11) (.agg #[.int .i64 c.p.kind, .int .i64 c.p.op.kind, .int .i64 c.p.op.task.id, .int .i64 c.p.op.task.c, .int .i64 c.p.op.task.d, .int .i64 c.p.op.task.t, .int .i64 c.p.op.task.m, .bool c.p.op.sv, .int .i64 c.p.op.id, .int .i64 c.p.op.c, .int .i64 c.p.op.m, .int .i64 0, .int .i64 0, .int .i64 0, .slice none 0 0]) (k := ?_)
    refine WL.store (v := .agg #[.int .i64 c.p.kind, .int .i64 c.p.op.kind, .int .i64 c.p.op.task.id, .int .i64 c.p.op.task.c, .int .i64 c.p.op.task.d, .int .i64 c.p.op.task.t, .int .i64 c.p.op.task.m, .bool c.p.op.sv, .int .i64 c.p.op.id, .int .i64 c.p.op.c, .int .i64 c.p.op.m, .int .i64 0, .int .i64 0, .int .i64 0, .slice none 0 0]) (i := 0) (cs' := #[.int .i64 c.p.kind, .int .i64 c.p.op.kind, .int .i64 c.p.op.task.id, .int .i64 c.p.op.task.c, .int .i64 c.p.op.task.d, .int .i64 c.p.op.task.t, .int .i64 c.p.op.task.m, .bool c.p.op.sv, .int .i64 c.p.op.id, .int .i64 c.p.op.c, .int .i64 c.p.op.m, .int .i64 0, .int .i64 0, .int .i64 0, .slice none 0 0]) hb10 (k := fun w15 hb16 k17 => ?_)
    replace hb4 := k17.heap hb4 n13
    replace K := K.trans' k17 (fun i hi e => absurd (e ▸ hi) (Nat.not_lt.2 z12))
    clear hb10
    refine WL.nil ?_
    refine WX.seqN ?_
    refine WC.ret ?_
    refine WX.blockR ?_
    refine WX.seqR ?_
    refine WX.ret (rs := [.cell 2 39]) [.agg #[.int .i64 c.p.kind, .int .i64 c.p.op.kind, .int .i64 c.p.op.task.id, .int .i64 c.p.op.task.c, .int .i64 c.p.op.task.d, .int .i64 c.p.op.task.t, .int .i64 c.p.op.task.m, .bool c.p.op.sv, .int .i64 c.p.op.id, .int .i64 c.p.op.c, .int .i64 c.p.op.m, .int .i64 0, .int .i64 0, .int .i64 0, .slice none 0 0]] (.agg #[.int .i64 c.p.kind, .int .i64 c.p.op.kind, .int .i64 c.p.op.task.id, .int .i64 c.p.op.task.c, .int .i64 c.p.op.task.d, .int .i64 c.p.op.task.t, .int .i64 c.p.op.task.m, .bool c.p.op.sv, .int .i64 c.p.op.id, .int .i64 c.p.op.c, .int .i64 c.p.op.m, .int .i64 0, .int .i64 0, .int .i64 0, .slice none 0 0]) ⟨⟨_, (by kernel_rfl), ldN (T := 39) (i := 0) (m := 15) (l := [.int .i64 c.p.kind, .int .i64 c.p.op.kind, .int .i64 c.p.op.task.id, .int .i64 c.p.op.task.c, .int .i64 c.p.op.task.d, .int .i64 c.p.op.task.t, .int .i64 c.p.op.task.m, .bool c.p.op.sv, .int .i64 c.p.op.id, .int .i64 c.p.op.c, .int .i64 c.p.op.m, .int .i64 0, .int .i64 0, .int .i64 0, .slice none 0 0]) hb16⟩, trivial⟩ (k := ?_)
    exact ⟨by simp [GCmd.bare, PCmd.bare, GOp.zero, ph14], K⟩
  · have ph14 := ne_of_beq_false h14
    refine WC.seq ?_
    refine WC.seq ?_
    refine WC.region ?_
    refine WL.op (d := 13) (.bool (c.p.kind == 2)) (k := ?_)
    refine WL.op (d := 12) (.bool (c.p.kind == 2)) (k := ?_)
    refine WL.nil ?_
    refine WX.seqN ?_
    refine WC.cond (b := c.p.kind == 2) (ht := fun h18 => ?_) (hf := fun h18 => ?_)
    · have ph18 := eq_of_beq h18
      refine WC.skip ?_
      refine WX.seqN ?_
      refine WC.rw (t := 12) (v := .bool true) (congrArg Value.bool h18) (k := ?_)
      refine WC.condT (k := ?_)
      refine WC.seq ?_
      refine WC.region ?_
      refine WL.op (d := 15) (.pointer (some ⟨b1, 0, none⟩)) (k := ?_)
      refine WL.load (v := .int .i64 c.p.kind) (ld1 (T := 3) (i := 0) hb4) (k := ?_)
      refine WL.op (d := 17) (.pointer (some ⟨b1, 11, none⟩)) (k := ?_)
      refine WL.load (v := .int .i64 c.p.id) (ld1 (T := 3) (i := 11) hb4) (k := ?_)
      refine WL.op (d := 19) (.pointer (some ⟨b1, 12, none⟩)) (k := ?_)
      refine WL.load (v := .int .i64 c.p.work) (ld1 (T := 2) (i := 12) hb4) (k := ?_)
      refine WL.op (d := 21) (.agg #[.int .i64 c.p.kind, .int .i64 0, .int .i64 0, .int .i64 0, .int .i64 0, .int .i64 0, .int .i64 0, .bool false, .int .i64 0, .int .i64 0, .int .i64 0, .int .i64 c.p.id, .int .i64 c.p.work, .int .i64 0, .slice none 0 0]) (k := ?_)
      refine WL.store (v := .agg #[.int .i64 c.p.kind, .int .i64 0, .int .i64 0, .int .i64 0, .int .i64 0, .int .i64 0, .int .i64 0, .bool false, .int .i64 0, .int .i64 0, .int .i64 0, .int .i64 c.p.id, .int .i64 c.p.work, .int .i64 0, .slice none 0 0]) (i := 0) (cs' := #[.int .i64 c.p.kind, .int .i64 0, .int .i64 0, .int .i64 0, .int .i64 0, .int .i64 0, .int .i64 0, .bool false, .int .i64 0, .int .i64 0, .int .i64 0, .int .i64 c.p.id, .int .i64 c.p.work, .int .i64 0, .slice none 0 0]) hb10 (k := fun w19 hb20 k21 => ?_)
      replace hb4 := k21.heap hb4 n13
      replace K := K.trans' k21 (fun i hi e => absurd (e ▸ hi) (Nat.not_lt.2 z12))
      clear hb10
      refine WL.nil ?_
      refine WX.seqN ?_
      refine WC.ret ?_
      refine WX.blockR ?_
      refine WX.seqR ?_
      refine WX.ret (rs := [.cell 2 39]) [.agg #[.int .i64 c.p.kind, .int .i64 0, .int .i64 0, .int .i64 0, .int .i64 0, .int .i64 0, .int .i64 0, .bool false, .int .i64 0, .int .i64 0, .int .i64 0, .int .i64 c.p.id, .int .i64 c.p.work, .int .i64 0, .slice none 0 0]] (.agg #[.int .i64 c.p.kind, .int .i64 0, .int .i64 0, .int .i64 0, .int .i64 0, .int .i64 0, .int .i64 0, .bool false, .int .i64 0, .int .i64 0, .int .i64 0, .int .i64 c.p.id, .int .i64 c.p.work, .int .i64 0, .slice none 0 0]) ⟨⟨_, (by kernel_rfl), ldN (T := 39) (i := 0) (m := 15) (l := [.int .i64 c.p.kind, .int .i64 0, .int .i64 0, .int .i64 0, .int .i64 0, .int .i64 0, .int .i64 0, .bool false, .int .i64 0, .int .i64 0, .int .i64 0, .int .i64 c.p.id, .int .i64 c.p.work, .int .i64 0, .slice none 0 0]) hb20⟩, trivial⟩ (k := ?_)
      exact ⟨by simp [GCmd.bare, PCmd.bare, GOp.zero, ph14, ph18], K⟩
    · have ph18 := ne_of_beq_false h18
      refine WC.region ?_
      refine WL.op (d := 14) (.bool (c.p.kind == 3)) (k := ?_)
      refine WL.op (d := 12) (.bool (c.p.kind == 3)) (k := ?_)
      refine WL.nil ?_
      refine WX.seqN ?_
      refine WC.cond (b := c.p.kind == 3) (ht := fun h22 => ?_) (hf := fun h22 => ?_)
      · have ph22 := eq_of_beq h22
        refine WC.seq ?_
        refine WC.region ?_
        refine WL.op (d := 15) (.pointer (some ⟨b1, 0, none⟩)) (k := ?_)
        refine WL.load (v := .int .i64 c.p.kind) (ld1 (T := 3) (i := 0) hb4) (k := ?_)
        refine WL.op (d := 17) (.pointer (some ⟨b1, 11, none⟩)) (k := ?_)
        refine WL.load (v := .int .i64 c.p.id) (ld1 (T := 3) (i := 11) hb4) (k := ?_)
        refine WL.op (d := 19) (.pointer (some ⟨b1, 12, none⟩)) (k := ?_)
        refine WL.load (v := .int .i64 c.p.work) (ld1 (T := 2) (i := 12) hb4) (k := ?_)
        refine WL.op (d := 21) (.agg #[.int .i64 c.p.kind, .int .i64 0, .int .i64 0, .int .i64 0, .int .i64 0, .int .i64 0, .int .i64 0, .bool false, .int .i64 0, .int .i64 0, .int .i64 0, .int .i64 c.p.id, .int .i64 c.p.work, .int .i64 0, .slice none 0 0]) (k := ?_)
        refine WL.store (v := .agg #[.int .i64 c.p.kind, .int .i64 0, .int .i64 0, .int .i64 0, .int .i64 0, .int .i64 0, .int .i64 0, .bool false, .int .i64 0, .int .i64 0, .int .i64 0, .int .i64 c.p.id, .int .i64 c.p.work, .int .i64 0, .slice none 0 0]) (i := 0) (cs' := #[.int .i64 c.p.kind, .int .i64 0, .int .i64 0, .int .i64 0, .int .i64 0, .int .i64 0, .int .i64 0, .bool false, .int .i64 0, .int .i64 0, .int .i64 0, .int .i64 c.p.id, .int .i64 c.p.work, .int .i64 0, .slice none 0 0]) hb10 (k := fun w23 hb24 k25 => ?_)
        replace hb4 := k25.heap hb4 n13
        replace K := K.trans' k25 (fun i hi e => absurd (e ▸ hi) (Nat.not_lt.2 z12))
        clear hb10
        refine WL.nil ?_
        refine WX.seqN ?_
        refine WC.ret ?_
        refine WX.blockR ?_
        refine WX.seqR ?_
        refine WX.ret (rs := [.cell 2 39]) [.agg #[.int .i64 c.p.kind, .int .i64 0, .int .i64 0, .int .i64 0, .int .i64 0, .int .i64 0, .int .i64 0, .bool false, .int .i64 0, .int .i64 0, .int .i64 0, .int .i64 c.p.id, .int .i64 c.p.work, .int .i64 0, .slice none 0 0]] (.agg #[.int .i64 c.p.kind, .int .i64 0, .int .i64 0, .int .i64 0, .int .i64 0, .int .i64 0, .int .i64 0, .bool false, .int .i64 0, .int .i64 0, .int .i64 0, .int .i64 c.p.id, .int .i64 c.p.work, .int .i64 0, .slice none 0 0]) ⟨⟨_, (by kernel_rfl), ldN (T := 39) (i := 0) (m := 15) (l := [.int .i64 c.p.kind, .int .i64 0, .int .i64 0, .int .i64 0, .int .i64 0, .int .i64 0, .int .i64 0, .bool false, .int .i64 0, .int .i64 0, .int .i64 0, .int .i64 c.p.id, .int .i64 c.p.work, .int .i64 0, .slice none 0 0]) hb24⟩, trivial⟩ (k := ?_)
        exact ⟨by simp [GCmd.bare, PCmd.bare, GOp.zero, ph14, ph18, ph22], K⟩
      · have ph22 := ne_of_beq_false h22
        refine WC.seq ?_
        refine WC.seq ?_
        refine WC.region ?_
        refine WL.op (d := 23) (.bool (c.p.kind == 4)) (k := ?_)
        refine WL.op (d := 22) (.bool (c.p.kind == 4)) (k := ?_)
        refine WL.nil ?_
        refine WX.seqN ?_
        refine WC.cond (b := c.p.kind == 4) (ht := fun h26 => ?_) (hf := fun h26 => ?_)
        · have ph26 := eq_of_beq h26
          refine WC.skip ?_
          refine WX.seqN ?_
          refine WC.rw (t := 22) (v := .bool true) (congrArg Value.bool h26) (k := ?_)
          refine WC.condT (k := ?_)
          refine WC.seq ?_
          refine WC.region ?_
          refine WL.op (d := 25) (.pointer (some ⟨b1, 0, none⟩)) (k := ?_)
          refine WL.load (v := .int .i64 c.p.kind) (ld1 (T := 3) (i := 0) hb4) (k := ?_)
          refine WL.op (d := 27) (.pointer (some ⟨b1, 13, none⟩)) (k := ?_)
          refine WL.load (v := .int .i64 c.p.n) (ld1 (T := 3) (i := 13) hb4) (k := ?_)
          refine WL.op (d := 29) (.agg #[.int .i64 c.p.kind, .int .i64 0, .int .i64 0, .int .i64 0, .int .i64 0, .int .i64 0, .int .i64 0, .bool false, .int .i64 0, .int .i64 0, .int .i64 0, .int .i64 0, .int .i64 0, .int .i64 c.p.n, .slice none 0 0]) (k := ?_)
          refine WL.store (v := .agg #[.int .i64 c.p.kind, .int .i64 0, .int .i64 0, .int .i64 0, .int .i64 0, .int .i64 0, .int .i64 0, .bool false, .int .i64 0, .int .i64 0, .int .i64 0, .int .i64 0, .int .i64 0, .int .i64 c.p.n, .slice none 0 0]) (i := 0) (cs' := #[.int .i64 c.p.kind, .int .i64 0, .int .i64 0, .int .i64 0, .int .i64 0, .int .i64 0, .int .i64 0, .bool false, .int .i64 0, .int .i64 0, .int .i64 0, .int .i64 0, .int .i64 0, .int .i64 c.p.n, .slice none 0 0]) hb10 (k := fun w27 hb28 k29 => ?_)
          replace hb4 := k29.heap hb4 n13
          replace K := K.trans' k29 (fun i hi e => absurd (e ▸ hi) (Nat.not_lt.2 z12))
          clear hb10
          refine WL.nil ?_
          refine WX.seqN ?_
          refine WC.ret ?_
          refine WX.blockR ?_
          refine WX.seqR ?_
          refine WX.ret (rs := [.cell 2 39]) [.agg #[.int .i64 c.p.kind, .int .i64 0, .int .i64 0, .int .i64 0, .int .i64 0, .int .i64 0, .int .i64 0, .bool false, .int .i64 0, .int .i64 0, .int .i64 0, .int .i64 0, .int .i64 0, .int .i64 c.p.n, .slice none 0 0]] (.agg #[.int .i64 c.p.kind, .int .i64 0, .int .i64 0, .int .i64 0, .int .i64 0, .int .i64 0, .int .i64 0, .bool false, .int .i64 0, .int .i64 0, .int .i64 0, .int .i64 0, .int .i64 0, .int .i64 c.p.n, .slice none 0 0]) ⟨⟨_, (by kernel_rfl), ldN (T := 39) (i := 0) (m := 15) (l := [.int .i64 c.p.kind, .int .i64 0, .int .i64 0, .int .i64 0, .int .i64 0, .int .i64 0, .int .i64 0, .bool false, .int .i64 0, .int .i64 0, .int .i64 0, .int .i64 0, .int .i64 0, .int .i64 c.p.n, .slice none 0 0]) hb28⟩, trivial⟩ (k := ?_)
          exact ⟨by simp [GCmd.bare, PCmd.bare, GOp.zero, ph14, ph18, ph22, ph26], K⟩
        · have ph26 := ne_of_beq_false h26
          refine WC.region ?_
          refine WL.op (d := 24) (.bool (c.p.kind == 7)) (k := ?_)
          refine WL.op (d := 22) (.bool (c.p.kind == 7)) (k := ?_)
          refine WL.nil ?_
          refine WX.seqN ?_
          refine WC.cond (b := c.p.kind == 7) (ht := fun h30 => ?_) (hf := fun h30 => ?_)
          · have ph30 := eq_of_beq h30
            refine WC.seq ?_
            refine WC.region ?_
            refine WL.op (d := 25) (.pointer (some ⟨b1, 0, none⟩)) (k := ?_)
            refine WL.load (v := .int .i64 c.p.kind) (ld1 (T := 3) (i := 0) hb4) (k := ?_)
            refine WL.op (d := 27) (.pointer (some ⟨b1, 13, none⟩)) (k := ?_)
            refine WL.load (v := .int .i64 c.p.n) (ld1 (T := 3) (i := 13) hb4) (k := ?_)
            refine WL.op (d := 29) (.agg #[.int .i64 c.p.kind, .int .i64 0, .int .i64 0, .int .i64 0, .int .i64 0, .int .i64 0, .int .i64 0, .bool false, .int .i64 0, .int .i64 0, .int .i64 0, .int .i64 0, .int .i64 0, .int .i64 c.p.n, .slice none 0 0]) (k := ?_)
            refine WL.store (v := .agg #[.int .i64 c.p.kind, .int .i64 0, .int .i64 0, .int .i64 0, .int .i64 0, .int .i64 0, .int .i64 0, .bool false, .int .i64 0, .int .i64 0, .int .i64 0, .int .i64 0, .int .i64 0, .int .i64 c.p.n, .slice none 0 0]) (i := 0) (cs' := #[.int .i64 c.p.kind, .int .i64 0, .int .i64 0, .int .i64 0, .int .i64 0, .int .i64 0, .int .i64 0, .bool false, .int .i64 0, .int .i64 0, .int .i64 0, .int .i64 0, .int .i64 0, .int .i64 c.p.n, .slice none 0 0]) hb10 (k := fun w31 hb32 k33 => ?_)
            replace hb4 := k33.heap hb4 n13
            replace K := K.trans' k33 (fun i hi e => absurd (e ▸ hi) (Nat.not_lt.2 z12))
            clear hb10
            refine WL.nil ?_
            refine WX.seqN ?_
            refine WC.ret ?_
            refine WX.blockR ?_
            refine WX.seqR ?_
            refine WX.ret (rs := [.cell 2 39]) [.agg #[.int .i64 c.p.kind, .int .i64 0, .int .i64 0, .int .i64 0, .int .i64 0, .int .i64 0, .int .i64 0, .bool false, .int .i64 0, .int .i64 0, .int .i64 0, .int .i64 0, .int .i64 0, .int .i64 c.p.n, .slice none 0 0]] (.agg #[.int .i64 c.p.kind, .int .i64 0, .int .i64 0, .int .i64 0, .int .i64 0, .int .i64 0, .int .i64 0, .bool false, .int .i64 0, .int .i64 0, .int .i64 0, .int .i64 0, .int .i64 0, .int .i64 c.p.n, .slice none 0 0]) ⟨⟨_, (by kernel_rfl), ldN (T := 39) (i := 0) (m := 15) (l := [.int .i64 c.p.kind, .int .i64 0, .int .i64 0, .int .i64 0, .int .i64 0, .int .i64 0, .int .i64 0, .bool false, .int .i64 0, .int .i64 0, .int .i64 0, .int .i64 0, .int .i64 0, .int .i64 c.p.n, .slice none 0 0]) hb32⟩, trivial⟩ (k := ?_)
            exact ⟨by simp [GCmd.bare, PCmd.bare, GOp.zero, ph14, ph18, ph22, ph26, ph30], K⟩
          · have ph30 := ne_of_beq_false h30
            refine WC.seq ?_
            refine WC.region ?_
            refine WL.op (d := 31) (.bool (c.p.kind == 5)) (k := ?_)
            refine WL.op (d := 30) (.bool (c.p.kind == 5)) (k := ?_)
            refine WL.nil ?_
            refine WX.seqN ?_
            refine WC.cond (b := c.p.kind == 5) (ht := fun h34 => ?_) (hf := fun h34 => ?_)
            · have ph34 := eq_of_beq h34
              refine WC.seq ?_
              refine WC.region ?_
              refine WL.op (d := 32) (.pointer (some ⟨b1, 0, none⟩)) (k := ?_)
              refine WL.load (v := .int .i64 c.p.kind) (ld1 (T := 3) (i := 0) hb4) (k := ?_)
              refine WL.op (d := 34) (.pointer (some ⟨b1, 11, none⟩)) (k := ?_)
              refine WL.load (v := .int .i64 c.p.id) (ld1 (T := 3) (i := 11) hb4) (k := ?_)
              refine WL.op (d := 36) (.agg #[.int .i64 c.p.kind, .int .i64 0, .int .i64 0, .int .i64 0, .int .i64 0, .int .i64 0, .int .i64 0, .bool false, .int .i64 0, .int .i64 0, .int .i64 0, .int .i64 c.p.id, .int .i64 0, .int .i64 0, .slice none 0 0]) (k := ?_)
              refine WL.store (v := .agg #[.int .i64 c.p.kind, .int .i64 0, .int .i64 0, .int .i64 0, .int .i64 0, .int .i64 0, .int .i64 0, .bool false, .int .i64 0, .int .i64 0, .int .i64 0, .int .i64 c.p.id, .int .i64 0, .int .i64 0, .slice none 0 0]) (i := 0) (cs' := #[.int .i64 c.p.kind, .int .i64 0, .int .i64 0, .int .i64 0, .int .i64 0, .int .i64 0, .int .i64 0, .bool false, .int .i64 0, .int .i64 0, .int .i64 0, .int .i64 c.p.id, .int .i64 0, .int .i64 0, .slice none 0 0]) hb10 (k := fun w35 hb36 k37 => ?_)
              replace hb4 := k37.heap hb4 n13
              replace K := K.trans' k37 (fun i hi e => absurd (e ▸ hi) (Nat.not_lt.2 z12))
              clear hb10
              refine WL.nil ?_
              refine WX.seqN ?_
              refine WC.ret ?_
              refine WX.blockR ?_
              refine WX.seqR ?_
              refine WX.ret (rs := [.cell 2 39]) [.agg #[.int .i64 c.p.kind, .int .i64 0, .int .i64 0, .int .i64 0, .int .i64 0, .int .i64 0, .int .i64 0, .bool false, .int .i64 0, .int .i64 0, .int .i64 0, .int .i64 c.p.id, .int .i64 0, .int .i64 0, .slice none 0 0]] (.agg #[.int .i64 c.p.kind, .int .i64 0, .int .i64 0, .int .i64 0, .int .i64 0, .int .i64 0, .int .i64 0, .bool false, .int .i64 0, .int .i64 0, .int .i64 0, .int .i64 c.p.id, .int .i64 0, .int .i64 0, .slice none 0 0]) ⟨⟨_, (by kernel_rfl), ldN (T := 39) (i := 0) (m := 15) (l := [.int .i64 c.p.kind, .int .i64 0, .int .i64 0, .int .i64 0, .int .i64 0, .int .i64 0, .int .i64 0, .bool false, .int .i64 0, .int .i64 0, .int .i64 0, .int .i64 c.p.id, .int .i64 0, .int .i64 0, .slice none 0 0]) hb36⟩, trivial⟩ (k := ?_)
              exact ⟨by simp [GCmd.bare, PCmd.bare, GOp.zero, ph14, ph18, ph22, ph26, ph30, ph34], K⟩
            · have ph34 := ne_of_beq_false h34
              refine WC.seq ?_
              refine WC.region ?_
              refine WL.op (d := 38) (.bool (c.p.kind == 8)) (k := ?_)
              refine WL.op (d := 37) (.bool (c.p.kind == 8)) (k := ?_)
              refine WL.nil ?_
              refine WX.seqN ?_
              refine WC.cond (b := c.p.kind == 8) (ht := fun h38 => ?_) (hf := fun h38 => ?_)
              · have ph38 := eq_of_beq h38
                refine WC.seq ?_
                refine WC.region ?_
                refine WL.op (d := 39) (.pointer (some ⟨b1, 0, none⟩)) (k := ?_)
                refine WL.load (v := .int .i64 c.p.kind) (ld1 (T := 3) (i := 0) hb4) (k := ?_)
                refine WL.op (d := 41) (.pointer (some ⟨b1, 14, none⟩)) (k := ?_)
                refine WL.load (v := .slice c.A c.p.fs.length c.cap) (ld1 (T := 37) (i := 14) hb4) (k := ?_)
                refine WL.op (d := 43) (.agg #[.int .i64 c.p.kind, .int .i64 0, .int .i64 0, .int .i64 0, .int .i64 0, .int .i64 0, .int .i64 0, .bool false, .int .i64 0, .int .i64 0, .int .i64 0, .int .i64 0, .int .i64 0, .int .i64 0, .slice c.A c.p.fs.length c.cap]) (k := ?_)
                refine WL.store (v := .agg #[.int .i64 c.p.kind, .int .i64 0, .int .i64 0, .int .i64 0, .int .i64 0, .int .i64 0, .int .i64 0, .bool false, .int .i64 0, .int .i64 0, .int .i64 0, .int .i64 0, .int .i64 0, .int .i64 0, .slice c.A c.p.fs.length c.cap]) (i := 0) (cs' := #[.int .i64 c.p.kind, .int .i64 0, .int .i64 0, .int .i64 0, .int .i64 0, .int .i64 0, .int .i64 0, .bool false, .int .i64 0, .int .i64 0, .int .i64 0, .int .i64 0, .int .i64 0, .int .i64 0, .slice c.A c.p.fs.length c.cap]) hb10 (k := fun w39 hb40 k41 => ?_)
                replace hb4 := k41.heap hb4 n13
                replace K := K.trans' k41 (fun i hi e => absurd (e ▸ hi) (Nat.not_lt.2 z12))
                clear hb10
                refine WL.nil ?_
                refine WX.seqN ?_
                refine WC.ret ?_
                refine WX.blockR ?_
                refine WX.seqR ?_
                refine WX.ret (rs := [.cell 2 39]) [.agg #[.int .i64 c.p.kind, .int .i64 0, .int .i64 0, .int .i64 0, .int .i64 0, .int .i64 0, .int .i64 0, .bool false, .int .i64 0, .int .i64 0, .int .i64 0, .int .i64 0, .int .i64 0, .int .i64 0, .slice c.A c.p.fs.length c.cap]] (.agg #[.int .i64 c.p.kind, .int .i64 0, .int .i64 0, .int .i64 0, .int .i64 0, .int .i64 0, .int .i64 0, .bool false, .int .i64 0, .int .i64 0, .int .i64 0, .int .i64 0, .int .i64 0, .int .i64 0, .slice c.A c.p.fs.length c.cap]) ⟨⟨_, (by kernel_rfl), ldN (T := 39) (i := 0) (m := 15) (l := [.int .i64 c.p.kind, .int .i64 0, .int .i64 0, .int .i64 0, .int .i64 0, .int .i64 0, .int .i64 0, .bool false, .int .i64 0, .int .i64 0, .int .i64 0, .int .i64 0, .int .i64 0, .int .i64 0, .slice c.A c.p.fs.length c.cap]) hb40⟩, trivial⟩ (k := ?_)
                exact ⟨by simp [GCmd.bare, PCmd.bare, GOp.zero, ph14, ph18, ph22, ph26, ph30, ph34, ph38], K⟩
              · have ph38 := ne_of_beq_false h38
                refine WC.skip ?_
                refine WX.blockN ?_
                refine WX.seqN ?_
                refine WC.seq ?_
                refine WC.region ?_
                refine WL.op (d := 44) (.pointer (some ⟨b1, 0, none⟩)) (k := ?_)
                refine WL.load (v := .int .i64 c.p.kind) (ld1 (T := 3) (i := 0) hb4) (k := ?_)
                refine WL.op (d := 46) (.agg #[.int .i64 c.p.kind, .int .i64 0, .int .i64 0, .int .i64 0, .int .i64 0, .int .i64 0, .int .i64 0, .bool false, .int .i64 0, .int .i64 0, .int .i64 0, .int .i64 0, .int .i64 0, .int .i64 0, .slice none 0 0]) (k := ?_)
                refine WL.store (v := .agg #[.int .i64 c.p.kind, .int .i64 0, .int .i64 0, .int .i64 0, .int .i64 0, .int .i64 0, .int .i64 0, .bool false, .int .i64 0, .int .i64 0, .int .i64 0, .int .i64 0, .int .i64 0, .int .i64 0, .slice none 0 0]) (i := 0) (cs' := #[.int .i64 c.p.kind, .int .i64 0, .int .i64 0, .int .i64 0, .int .i64 0, .int .i64 0, .int .i64 0, .bool false, .int .i64 0, .int .i64 0, .int .i64 0, .int .i64 0, .int .i64 0, .int .i64 0, .slice none 0 0]) hb10 (k := fun w42 hb43 k44 => ?_)
                replace hb4 := k44.heap hb4 n13
                replace K := K.trans' k44 (fun i hi e => absurd (e ▸ hi) (Nat.not_lt.2 z12))
                clear hb10
                refine WL.nil ?_
                refine WX.seqN ?_
                refine WC.ret ?_
                refine WX.ret (rs := [.cell 2 39]) [.agg #[.int .i64 c.p.kind, .int .i64 0, .int .i64 0, .int .i64 0, .int .i64 0, .int .i64 0, .int .i64 0, .bool false, .int .i64 0, .int .i64 0, .int .i64 0, .int .i64 0, .int .i64 0, .int .i64 0, .slice none 0 0]] (.agg #[.int .i64 c.p.kind, .int .i64 0, .int .i64 0, .int .i64 0, .int .i64 0, .int .i64 0, .int .i64 0, .bool false, .int .i64 0, .int .i64 0, .int .i64 0, .int .i64 0, .int .i64 0, .int .i64 0, .slice none 0 0]) ⟨⟨_, (by kernel_rfl), ldN (T := 39) (i := 0) (m := 15) (l := [.int .i64 c.p.kind, .int .i64 0, .int .i64 0, .int .i64 0, .int .i64 0, .int .i64 0, .int .i64 0, .bool false, .int .i64 0, .int .i64 0, .int .i64 0, .int .i64 0, .int .i64 0, .int .i64 0, .slice none 0 0]) hb43⟩, trivial⟩ (k := ?_)
                exact ⟨by simp [GCmd.bare, PCmd.bare, GOp.zero, ph14, ph18, ph22, ph26, ph30, ph34, ph38], K⟩
set_option maxRecDepth 100000 in
set_option maxHeartbeats 4000000 in
theorem u23bare_c (c : GCmd) (w : World) : Calls Tryz.prog 51 #[c.val] w fun e w' => e = .returned (GCmd.bare c).val ∧ Adds w w' := by
  have K : Keeps (fun _ => False) w w := Keeps.refl _ w
  refine Calls.start Tryz.func51 rfl (by kernel_rfl) ?_
  refine WC.seq ?_
  refine WC.region ?_
  refine WL.new (d := 1) (T := 39) (Value.cells (GCmd.val c)) (k := fun b1 w2 g3 hb4 k5 => ?_)
  have z6 := Nat.le_trans K.size g3
  replace K := K.trans (k5.any _)
  refine WL.new (d := 2) (T := 39) #[.int .i64 0, .int .i64 0, .int .i64 0, .int .i64 0, .int .i64 0, .int .i64 0, .int .i64 0, .bool false, .int .i64 0, .int .i64 0, .int .i64 0, .int .i64 0, .int .i64 0, .int .i64 0, .slice none 0 0] (k := fun b7 w8 g9 hb10 k11 => ?_)
  have z12 := Nat.le_trans K.size g9
  have n13 : b1 ≠ b7 := Nat.ne_of_lt (Nat.lt_of_lt_of_le (lt_of_heap hb4) g9)
  replace hb4 := k11.heap hb4 id
  replace K := K.trans (k11.any _)
  refine WL.nil ?_
  refine WX.seqN ?_
  refine WC.seq ?_
  refine WC.region ?_
  refine WL.op (d := 4) (.pointer (some ⟨b1, 0, none⟩)) (k := ?_)
  refine WL.load (v := .int .i64 c.p.kind) (ld1 (T := 3) (i := 0) hb4) (k := ?_)
  refine WL.op (d := 6) (.agg #[.int .i64 c.p.kind, .int .i64 0, .int .i64 0, .int .i64 0, .int .i64 0, .int .i64 0, .int .i64 0, .bool false, .int .i64 0, .int .i64 0, .int .i64 0, .int .i64 0, .int .i64 0, .int .i64 0, .slice none 0 0]) (k := ?_)
  refine WL.new (d := 3) (T := 39) #[.int .i64 0, .int .i64 0, .int .i64 0, .int .i64 0, .int .i64 0, .int .i64 0, .int .i64 0, .bool false, .int .i64 0, .int .i64 0, .int .i64 0, .int .i64 0, .int .i64 0, .int .i64 0, .slice none 0 0] (k := fun b14 w15 g16 hb17 k18 => ?_)
  have z19 := Nat.le_trans K.size g16
  have n20 : b1 ≠ b14 := Nat.ne_of_lt (Nat.lt_of_lt_of_le (lt_of_heap hb4) g16)
  have n21 : b7 ≠ b14 := Nat.ne_of_lt (Nat.lt_of_lt_of_le (lt_of_heap hb10) g16)
  replace hb4 := k18.heap hb4 id
  replace hb10 := k18.heap hb10 id
  replace K := K.trans (k18.any _)
  refine WL.store (v := .agg #[.int .i64 c.p.kind, .int .i64 0, .int .i64 0, .int .i64 0, .int .i64 0, .int .i64 0, .int .i64 0, .bool false, .int .i64 0, .int .i64 0, .int .i64 0, .int .i64 0, .int .i64 0, .int .i64 0, .slice none 0 0]) (i := 0) (cs' := #[.int .i64 c.p.kind, .int .i64 0, .int .i64 0, .int .i64 0, .int .i64 0, .int .i64 0, .int .i64 0, .bool false, .int .i64 0, .int .i64 0, .int .i64 0, .int .i64 0, .int .i64 0, .int .i64 0, .slice none 0 0]) hb17 (k := fun w22 hb23 k24 => ?_)
  replace hb4 := k24.heap hb4 n20
  replace hb10 := k24.heap hb10 n21
  replace K := K.trans' k24 (fun i hi e => absurd (e ▸ hi) (Nat.not_lt.2 z19))
  clear hb17
  refine WL.nil ?_
  refine WX.seqN ?_
  refine WC.seq ?_
  refine WC.seq ?_
  refine WC.region ?_
  refine WL.op (d := 7) (.pointer (some ⟨b1, 0, none⟩)) (k := ?_)
  refine WL.load (v := .int .i64 c.p.kind) (ld1 (T := 3) (i := 0) hb4) (k := ?_)
  refine WL.nil ?_
  refine WX.seqN ?_
  refine WC.block ?_
  refine WC.seq ?_
  refine WC.region ?_
  refine WL.op (d := 10) (.bool (c.p.kind == 1)) (k := ?_)
  refine WL.op (d := 9) (.bool (c.p.kind == 1)) (k := ?_)
  refine WL.nil ?_
  refine WX.seqN ?_
  refine WC.cond (b := c.p.kind == 1) (ht := fun h25 => ?_) (hf := fun h25 => ?_)
  · have ph25 := eq_of_beq h25
    refine WC.region ?_
    refine WL.op (d := 11) (.pointer (some ⟨b1, 1, none⟩)) (k := ?_)
    refine WL.load (v := GOp.val c.p.op) (ldN (T := 36) (i := 1) (m := 10) (l := (Value.cells (GOp.val c.p.op)).toList) hb4) (k := ?_)
    refine WL.op (d := 13) (.pointer (some ⟨b14, 1, none⟩)) (k := ?_)
    refine WL.store (v := GOp.val c.p.op) (i := 1) (cs' := #[.int .i64 c.p.kind, .int .i64 c.p.op.kind, .int .i64 c.p.op.task.id, .int .i64 c.p.op.task.c, .int .i64 c.p.op.task.d, .int .i64 c.p.op.task.t, .int .i64 c.p.op.task.m, .bool c.p.op.sv, .int .i64 c.p.op.id, .int .i64 c.p.op.c, .int .i64 c.p.op.m, .int .i64 0, .int .i64 0, .int .i64 0, .slice none 0 0]) hb23 (k := fun w26 hb27 k28 => ?_)
    replace hb4 := k28.heap hb4 n20
    replace hb10 := k28.heap hb10 n21
    replace K := K.trans' k28 (fun i hi e => absurd (e ▸ hi) (Nat.not_lt.2 z19))
    clear hb23
    refine WL.nil ?_
    refine WX.blockN ?_
    refine WX.seqN ?_
    refine WC.seq ?_
    refine WC.region ?_
    refine WL.load (v := .agg #[.int .i64 c.p.kind, .int .i64 c.p.op.kind, .int .i64 c.p.op.task.id, .int .i64 c.p.op.task.c, .int .i64 c.p.op.task.d, .int .i64 c.p.op.task.t, .int .i64 c.p.op.task.m, .bool c.p.op.sv, .int .i64 c.p.op.id, .int .i64 c.p.op.c, .int .i64 c.p.op.m, .int .i64 0, .int .i64 0, .int .i64 0, .slice none 0 0]) (ldN (T := 39) (i := 0) (m := 15) (l := [.int .i64 c.p.kind, .int .i64 c.p.op.kind, .int .i64 c.p.op.task.id, .int .i64 c.p.op.task.c, .int .i64 c.p.op.task.d, .int .i64 c.p.op.task.t, .int .i64 c.p.op.task.m, .bool c.p.op.sv, .int .i64 c.p.op.id, .int .i64 c.p.op.c, .int .i64 c.p.op.m, .int .i64 0, .int .i64 0, .int .i64 0, .slice none 0 0]) hb27) (k := ?_)
    refine WL.store (v := .agg #[.int .i64 c.p.kind, .int .i64 c.p.op.kind, .int .i64 c.p.op.task.id, .int .i64 c.p.op.task.c, .int .i64 c.p.op.task.d, .int .i64 c.p.op.task.t, .int .i64 c.p.op.task.m, .bool c.p.op.sv, .int .i64 c.p.op.id, .int .i64 c.p.op.c, .int .i64 c.p.op.m, .int .i64 0, .int .i64 0, .int .i64 0, .slice none 0 0]) (i := 0) (cs' := #[.int .i64 c.p.kind, .int .i64 c.p.op.kind, .int .i64 c.p.op.task.id, .int .i64 c.p.op.task.c, .int .i64 c.p.op.task.d, .int .i64 c.p.op.task.t, .int .i64 c.p.op.task.m, .bool c.p.op.sv, .int .i64 c.p.op.id, .int .i64 c.p.op.c, .int .i64 c.p.op.m, .int .i64 0, .int .i64 0, .int .i64 0, .slice none 0 0]) hb10 (k := fun w29 hb30 k31 => ?_)
    replace hb4 := k31.heap hb4 n13
    replace hb27 := k31.heap hb27 (Ne.symm n21)
    replace K := K.trans' k31 (fun i hi e => absurd (e ▸ hi) (Nat.not_lt.2 z12))
    clear hb10
    refine WL.nil ?_
    refine WX.seqN ?_
    refine WC.ret ?_
    refine WX.ret (rs := [.cell 2 39]) [.agg #[.int .i64 c.p.kind, .int .i64 c.p.op.kind, .int .i64 c.p.op.task.id, .int .i64 c.p.op.task.c, .int .i64 c.p.op.task.d, .int .i64 c.p.op.task.t, .int .i64 c.p.op.task.m, .bool c.p.op.sv, .int .i64 c.p.op.id, .int .i64 c.p.op.c, .int .i64 c.p.op.m, .int .i64 0, .int .i64 0, .int .i64 0, .slice none 0 0]] (.agg #[.int .i64 c.p.kind, .int .i64 c.p.op.kind, .int .i64 c.p.op.task.id, .int .i64 c.p.op.task.c, .int .i64 c.p.op.task.d, .int .i64 c.p.op.task.t, .int .i64 c.p.op.task.m, .bool c.p.op.sv, .int .i64 c.p.op.id, .int .i64 c.p.op.c, .int .i64 c.p.op.m, .int .i64 0, .int .i64 0, .int .i64 0, .slice none 0 0]) ⟨⟨_, (by kernel_rfl), ldN (T := 39) (i := 0) (m := 15) (l := [.int .i64 c.p.kind, .int .i64 c.p.op.kind, .int .i64 c.p.op.task.id, .int .i64 c.p.op.task.c, .int .i64 c.p.op.task.d, .int .i64 c.p.op.task.t, .int .i64 c.p.op.task.m, .bool c.p.op.sv, .int .i64 c.p.op.id, .int .i64 c.p.op.c, .int .i64 c.p.op.m, .int .i64 0, .int .i64 0, .int .i64 0, .slice none 0 0]) hb30⟩, trivial⟩ (k := ?_)
    exact ⟨by simp [GCmd.bare, PCmd.bare, GOp.zero, ph25], K⟩
  · have ph25 := ne_of_beq_false h25
    refine WC.seq ?_
    refine WC.seq ?_
    refine WC.region ?_
    refine WL.op (d := 15) (.bool (c.p.kind == 2)) (k := ?_)
    refine WL.op (d := 14) (.bool (c.p.kind == 2)) (k := ?_)
    refine WL.nil ?_
    refine WX.seqN ?_
    refine WC.cond (b := c.p.kind == 2) (ht := fun h32 => ?_) (hf := fun h32 => ?_)
    · have ph32 := eq_of_beq h32
      refine WC.skip ?_
      refine WX.seqN ?_
      refine WC.rw (t := 14) (v := .bool true) (congrArg Value.bool h32) (k := ?_)
      refine WC.condT (k := ?_)
      refine WC.seq ?_
      refine WC.region ?_
      refine WL.op (d := 17) (.pointer (some ⟨b1, 11, none⟩)) (k := ?_)
      refine WL.load (v := .int .i64 c.p.id) (ld1 (T := 3) (i := 11) hb4) (k := ?_)
      refine WL.op (d := 19) (.pointer (some ⟨b14, 11, none⟩)) (k := ?_)
      refine WL.store (v := .int .i64 c.p.id) (i := 11) (cs' := #[.int .i64 c.p.kind, .int .i64 0, .int .i64 0, .int .i64 0, .int .i64 0, .int .i64 0, .int .i64 0, .bool false, .int .i64 0, .int .i64 0, .int .i64 0, .int .i64 c.p.id, .int .i64 0, .int .i64 0, .slice none 0 0]) hb23 (k := fun w33 hb34 k35 => ?_)
      replace hb4 := k35.heap hb4 n20
      replace hb10 := k35.heap hb10 n21
      replace K := K.trans' k35 (fun i hi e => absurd (e ▸ hi) (Nat.not_lt.2 z19))
      clear hb23
      refine WL.nil ?_
      refine WX.seqN ?_
      refine WC.region ?_
      refine WL.op (d := 20) (.pointer (some ⟨b1, 12, none⟩)) (k := ?_)
      refine WL.load (v := .int .i64 c.p.work) (ld1 (T := 2) (i := 12) hb4) (k := ?_)
      refine WL.op (d := 22) (.pointer (some ⟨b14, 12, none⟩)) (k := ?_)
      refine WL.store (v := .int .i64 c.p.work) (i := 12) (cs' := #[.int .i64 c.p.kind, .int .i64 0, .int .i64 0, .int .i64 0, .int .i64 0, .int .i64 0, .int .i64 0, .bool false, .int .i64 0, .int .i64 0, .int .i64 0, .int .i64 c.p.id, .int .i64 c.p.work, .int .i64 0, .slice none 0 0]) hb34 (k := fun w36 hb37 k38 => ?_)
      replace hb4 := k38.heap hb4 n20
      replace hb10 := k38.heap hb10 n21
      replace K := K.trans' k38 (fun i hi e => absurd (e ▸ hi) (Nat.not_lt.2 z19))
      clear hb34
      refine WL.nil ?_
      refine WX.blockN ?_
      refine WX.seqN ?_
      refine WC.seq ?_
      refine WC.region ?_
      refine WL.load (v := .agg #[.int .i64 c.p.kind, .int .i64 0, .int .i64 0, .int .i64 0, .int .i64 0, .int .i64 0, .int .i64 0, .bool false, .int .i64 0, .int .i64 0, .int .i64 0, .int .i64 c.p.id, .int .i64 c.p.work, .int .i64 0, .slice none 0 0]) (ldN (T := 39) (i := 0) (m := 15) (l := [.int .i64 c.p.kind, .int .i64 0, .int .i64 0, .int .i64 0, .int .i64 0, .int .i64 0, .int .i64 0, .bool false, .int .i64 0, .int .i64 0, .int .i64 0, .int .i64 c.p.id, .int .i64 c.p.work, .int .i64 0, .slice none 0 0]) hb37) (k := ?_)
      refine WL.store (v := .agg #[.int .i64 c.p.kind, .int .i64 0, .int .i64 0, .int .i64 0, .int .i64 0, .int .i64 0, .int .i64 0, .bool false, .int .i64 0, .int .i64 0, .int .i64 0, .int .i64 c.p.id, .int .i64 c.p.work, .int .i64 0, .slice none 0 0]) (i := 0) (cs' := #[.int .i64 c.p.kind, .int .i64 0, .int .i64 0, .int .i64 0, .int .i64 0, .int .i64 0, .int .i64 0, .bool false, .int .i64 0, .int .i64 0, .int .i64 0, .int .i64 c.p.id, .int .i64 c.p.work, .int .i64 0, .slice none 0 0]) hb10 (k := fun w39 hb40 k41 => ?_)
      replace hb4 := k41.heap hb4 n13
      replace hb37 := k41.heap hb37 (Ne.symm n21)
      replace K := K.trans' k41 (fun i hi e => absurd (e ▸ hi) (Nat.not_lt.2 z12))
      clear hb10
      refine WL.nil ?_
      refine WX.seqN ?_
      refine WC.ret ?_
      refine WX.ret (rs := [.cell 2 39]) [.agg #[.int .i64 c.p.kind, .int .i64 0, .int .i64 0, .int .i64 0, .int .i64 0, .int .i64 0, .int .i64 0, .bool false, .int .i64 0, .int .i64 0, .int .i64 0, .int .i64 c.p.id, .int .i64 c.p.work, .int .i64 0, .slice none 0 0]] (.agg #[.int .i64 c.p.kind, .int .i64 0, .int .i64 0, .int .i64 0, .int .i64 0, .int .i64 0, .int .i64 0, .bool false, .int .i64 0, .int .i64 0, .int .i64 0, .int .i64 c.p.id, .int .i64 c.p.work, .int .i64 0, .slice none 0 0]) ⟨⟨_, (by kernel_rfl), ldN (T := 39) (i := 0) (m := 15) (l := [.int .i64 c.p.kind, .int .i64 0, .int .i64 0, .int .i64 0, .int .i64 0, .int .i64 0, .int .i64 0, .bool false, .int .i64 0, .int .i64 0, .int .i64 0, .int .i64 c.p.id, .int .i64 c.p.work, .int .i64 0, .slice none 0 0]) hb40⟩, trivial⟩ (k := ?_)
      exact ⟨by simp [GCmd.bare, PCmd.bare, GOp.zero, ph25, ph32], K⟩
    · have ph32 := ne_of_beq_false h32
      refine WC.region ?_
      refine WL.op (d := 16) (.bool (c.p.kind == 3)) (k := ?_)
      refine WL.op (d := 14) (.bool (c.p.kind == 3)) (k := ?_)
      refine WL.nil ?_
      refine WX.seqN ?_
      refine WC.cond (b := c.p.kind == 3) (ht := fun h42 => ?_) (hf := fun h42 => ?_)
      · have ph42 := eq_of_beq h42
        refine WC.seq ?_
        refine WC.region ?_
        refine WL.op (d := 17) (.pointer (some ⟨b1, 11, none⟩)) (k := ?_)
        refine WL.load (v := .int .i64 c.p.id) (ld1 (T := 3) (i := 11) hb4) (k := ?_)
        refine WL.op (d := 19) (.pointer (some ⟨b14, 11, none⟩)) (k := ?_)
        refine WL.store (v := .int .i64 c.p.id) (i := 11) (cs' := #[.int .i64 c.p.kind, .int .i64 0, .int .i64 0, .int .i64 0, .int .i64 0, .int .i64 0, .int .i64 0, .bool false, .int .i64 0, .int .i64 0, .int .i64 0, .int .i64 c.p.id, .int .i64 0, .int .i64 0, .slice none 0 0]) hb23 (k := fun w43 hb44 k45 => ?_)
        replace hb4 := k45.heap hb4 n20
        replace hb10 := k45.heap hb10 n21
        replace K := K.trans' k45 (fun i hi e => absurd (e ▸ hi) (Nat.not_lt.2 z19))
        clear hb23
        refine WL.nil ?_
        refine WX.seqN ?_
        refine WC.region ?_
        refine WL.op (d := 20) (.pointer (some ⟨b1, 12, none⟩)) (k := ?_)
        refine WL.load (v := .int .i64 c.p.work) (ld1 (T := 2) (i := 12) hb4) (k := ?_)
        refine WL.op (d := 22) (.pointer (some ⟨b14, 12, none⟩)) (k := ?_)
        refine WL.store (v := .int .i64 c.p.work) (i := 12) (cs' := #[.int .i64 c.p.kind, .int .i64 0, .int .i64 0, .int .i64 0, .int .i64 0, .int .i64 0, .int .i64 0, .bool false, .int .i64 0, .int .i64 0, .int .i64 0, .int .i64 c.p.id, .int .i64 c.p.work, .int .i64 0, .slice none 0 0]) hb44 (k := fun w46 hb47 k48 => ?_)
        replace hb4 := k48.heap hb4 n20
        replace hb10 := k48.heap hb10 n21
        replace K := K.trans' k48 (fun i hi e => absurd (e ▸ hi) (Nat.not_lt.2 z19))
        clear hb44
        refine WL.nil ?_
        refine WX.blockN ?_
        refine WX.seqN ?_
        refine WC.seq ?_
        refine WC.region ?_
        refine WL.load (v := .agg #[.int .i64 c.p.kind, .int .i64 0, .int .i64 0, .int .i64 0, .int .i64 0, .int .i64 0, .int .i64 0, .bool false, .int .i64 0, .int .i64 0, .int .i64 0, .int .i64 c.p.id, .int .i64 c.p.work, .int .i64 0, .slice none 0 0]) (ldN (T := 39) (i := 0) (m := 15) (l := [.int .i64 c.p.kind, .int .i64 0, .int .i64 0, .int .i64 0, .int .i64 0, .int .i64 0, .int .i64 0, .bool false, .int .i64 0, .int .i64 0, .int .i64 0, .int .i64 c.p.id, .int .i64 c.p.work, .int .i64 0, .slice none 0 0]) hb47) (k := ?_)
        refine WL.store (v := .agg #[.int .i64 c.p.kind, .int .i64 0, .int .i64 0, .int .i64 0, .int .i64 0, .int .i64 0, .int .i64 0, .bool false, .int .i64 0, .int .i64 0, .int .i64 0, .int .i64 c.p.id, .int .i64 c.p.work, .int .i64 0, .slice none 0 0]) (i := 0) (cs' := #[.int .i64 c.p.kind, .int .i64 0, .int .i64 0, .int .i64 0, .int .i64 0, .int .i64 0, .int .i64 0, .bool false, .int .i64 0, .int .i64 0, .int .i64 0, .int .i64 c.p.id, .int .i64 c.p.work, .int .i64 0, .slice none 0 0]) hb10 (k := fun w49 hb50 k51 => ?_)
        replace hb4 := k51.heap hb4 n13
        replace hb47 := k51.heap hb47 (Ne.symm n21)
        replace K := K.trans' k51 (fun i hi e => absurd (e ▸ hi) (Nat.not_lt.2 z12))
        clear hb10
        refine WL.nil ?_
        refine WX.seqN ?_
        refine WC.ret ?_
        refine WX.ret (rs := [.cell 2 39]) [.agg #[.int .i64 c.p.kind, .int .i64 0, .int .i64 0, .int .i64 0, .int .i64 0, .int .i64 0, .int .i64 0, .bool false, .int .i64 0, .int .i64 0, .int .i64 0, .int .i64 c.p.id, .int .i64 c.p.work, .int .i64 0, .slice none 0 0]] (.agg #[.int .i64 c.p.kind, .int .i64 0, .int .i64 0, .int .i64 0, .int .i64 0, .int .i64 0, .int .i64 0, .bool false, .int .i64 0, .int .i64 0, .int .i64 0, .int .i64 c.p.id, .int .i64 c.p.work, .int .i64 0, .slice none 0 0]) ⟨⟨_, (by kernel_rfl), ldN (T := 39) (i := 0) (m := 15) (l := [.int .i64 c.p.kind, .int .i64 0, .int .i64 0, .int .i64 0, .int .i64 0, .int .i64 0, .int .i64 0, .bool false, .int .i64 0, .int .i64 0, .int .i64 0, .int .i64 c.p.id, .int .i64 c.p.work, .int .i64 0, .slice none 0 0]) hb50⟩, trivial⟩ (k := ?_)
        exact ⟨by simp [GCmd.bare, PCmd.bare, GOp.zero, ph25, ph32, ph42], K⟩
      · have ph42 := ne_of_beq_false h42
        refine WC.seq ?_
        refine WC.seq ?_
        refine WC.region ?_
        refine WL.op (d := 24) (.bool (c.p.kind == 4)) (k := ?_)
        refine WL.op (d := 23) (.bool (c.p.kind == 4)) (k := ?_)
        refine WL.nil ?_
        refine WX.seqN ?_
        refine WC.cond (b := c.p.kind == 4) (ht := fun h52 => ?_) (hf := fun h52 => ?_)
        · have ph52 := eq_of_beq h52
          refine WC.skip ?_
          refine WX.seqN ?_
          refine WC.rw (t := 23) (v := .bool true) (congrArg Value.bool h52) (k := ?_)
          refine WC.condT (k := ?_)
          refine WC.region ?_
          refine WL.op (d := 26) (.pointer (some ⟨b1, 13, none⟩)) (k := ?_)
          refine WL.load (v := .int .i64 c.p.n) (ld1 (T := 3) (i := 13) hb4) (k := ?_)
          refine WL.op (d := 28) (.pointer (some ⟨b14, 13, none⟩)) (k := ?_)
          refine WL.store (v := .int .i64 c.p.n) (i := 13) (cs' := #[.int .i64 c.p.kind, .int .i64 0, .int .i64 0, .int .i64 0, .int .i64 0, .int .i64 0, .int .i64 0, .bool false, .int .i64 0, .int .i64 0, .int .i64 0, .int .i64 0, .int .i64 0, .int .i64 c.p.n, .slice none 0 0]) hb23 (k := fun w53 hb54 k55 => ?_)
          replace hb4 := k55.heap hb4 n20
          replace hb10 := k55.heap hb10 n21
          replace K := K.trans' k55 (fun i hi e => absurd (e ▸ hi) (Nat.not_lt.2 z19))
          clear hb23
          refine WL.nil ?_
          refine WX.blockN ?_
          refine WX.seqN ?_
          refine WC.seq ?_
          refine WC.region ?_
          refine WL.load (v := .agg #[.int .i64 c.p.kind, .int .i64 0, .int .i64 0, .int .i64 0, .int .i64 0, .int .i64 0, .int .i64 0, .bool false, .int .i64 0, .int .i64 0, .int .i64 0, .int .i64 0, .int .i64 0, .int .i64 c.p.n, .slice none 0 0]) (ldN (T := 39) (i := 0) (m := 15) (l := [.int .i64 c.p.kind, .int .i64 0, .int .i64 0, .int .i64 0, .int .i64 0, .int .i64 0, .int .i64 0, .bool false, .int .i64 0, .int .i64 0, .int .i64 0, .int .i64 0, .int .i64 0, .int .i64 c.p.n, .slice none 0 0]) hb54) (k := ?_)
          refine WL.store (v := .agg #[.int .i64 c.p.kind, .int .i64 0, .int .i64 0, .int .i64 0, .int .i64 0, .int .i64 0, .int .i64 0, .bool false, .int .i64 0, .int .i64 0, .int .i64 0, .int .i64 0, .int .i64 0, .int .i64 c.p.n, .slice none 0 0]) (i := 0) (cs' := #[.int .i64 c.p.kind, .int .i64 0, .int .i64 0, .int .i64 0, .int .i64 0, .int .i64 0, .int .i64 0, .bool false, .int .i64 0, .int .i64 0, .int .i64 0, .int .i64 0, .int .i64 0, .int .i64 c.p.n, .slice none 0 0]) hb10 (k := fun w56 hb57 k58 => ?_)
          replace hb4 := k58.heap hb4 n13
          replace hb54 := k58.heap hb54 (Ne.symm n21)
          replace K := K.trans' k58 (fun i hi e => absurd (e ▸ hi) (Nat.not_lt.2 z12))
          clear hb10
          refine WL.nil ?_
          refine WX.seqN ?_
          refine WC.ret ?_
          refine WX.ret (rs := [.cell 2 39]) [.agg #[.int .i64 c.p.kind, .int .i64 0, .int .i64 0, .int .i64 0, .int .i64 0, .int .i64 0, .int .i64 0, .bool false, .int .i64 0, .int .i64 0, .int .i64 0, .int .i64 0, .int .i64 0, .int .i64 c.p.n, .slice none 0 0]] (.agg #[.int .i64 c.p.kind, .int .i64 0, .int .i64 0, .int .i64 0, .int .i64 0, .int .i64 0, .int .i64 0, .bool false, .int .i64 0, .int .i64 0, .int .i64 0, .int .i64 0, .int .i64 0, .int .i64 c.p.n, .slice none 0 0]) ⟨⟨_, (by kernel_rfl), ldN (T := 39) (i := 0) (m := 15) (l := [.int .i64 c.p.kind, .int .i64 0, .int .i64 0, .int .i64 0, .int .i64 0, .int .i64 0, .int .i64 0, .bool false, .int .i64 0, .int .i64 0, .int .i64 0, .int .i64 0, .int .i64 0, .int .i64 c.p.n, .slice none 0 0]) hb57⟩, trivial⟩ (k := ?_)
          exact ⟨by simp [GCmd.bare, PCmd.bare, GOp.zero, ph25, ph32, ph42, ph52], K⟩
        · have ph52 := ne_of_beq_false h52
          refine WC.region ?_
          refine WL.op (d := 25) (.bool (c.p.kind == 7)) (k := ?_)
          refine WL.op (d := 23) (.bool (c.p.kind == 7)) (k := ?_)
          refine WL.nil ?_
          refine WX.seqN ?_
          refine WC.cond (b := c.p.kind == 7) (ht := fun h59 => ?_) (hf := fun h59 => ?_)
          · have ph59 := eq_of_beq h59
            refine WC.region ?_
            refine WL.op (d := 26) (.pointer (some ⟨b1, 13, none⟩)) (k := ?_)
            refine WL.load (v := .int .i64 c.p.n) (ld1 (T := 3) (i := 13) hb4) (k := ?_)
            refine WL.op (d := 28) (.pointer (some ⟨b14, 13, none⟩)) (k := ?_)
            refine WL.store (v := .int .i64 c.p.n) (i := 13) (cs' := #[.int .i64 c.p.kind, .int .i64 0, .int .i64 0, .int .i64 0, .int .i64 0, .int .i64 0, .int .i64 0, .bool false, .int .i64 0, .int .i64 0, .int .i64 0, .int .i64 0, .int .i64 0, .int .i64 c.p.n, .slice none 0 0]) hb23 (k := fun w60 hb61 k62 => ?_)
            replace hb4 := k62.heap hb4 n20
            replace hb10 := k62.heap hb10 n21
            replace K := K.trans' k62 (fun i hi e => absurd (e ▸ hi) (Nat.not_lt.2 z19))
            clear hb23
            refine WL.nil ?_
            refine WX.blockN ?_
            refine WX.seqN ?_
            refine WC.seq ?_
            refine WC.region ?_
            refine WL.load (v := .agg #[.int .i64 c.p.kind, .int .i64 0, .int .i64 0, .int .i64 0, .int .i64 0, .int .i64 0, .int .i64 0, .bool false, .int .i64 0, .int .i64 0, .int .i64 0, .int .i64 0, .int .i64 0, .int .i64 c.p.n, .slice none 0 0]) (ldN (T := 39) (i := 0) (m := 15) (l := [.int .i64 c.p.kind, .int .i64 0, .int .i64 0, .int .i64 0, .int .i64 0, .int .i64 0, .int .i64 0, .bool false, .int .i64 0, .int .i64 0, .int .i64 0, .int .i64 0, .int .i64 0, .int .i64 c.p.n, .slice none 0 0]) hb61) (k := ?_)
            refine WL.store (v := .agg #[.int .i64 c.p.kind, .int .i64 0, .int .i64 0, .int .i64 0, .int .i64 0, .int .i64 0, .int .i64 0, .bool false, .int .i64 0, .int .i64 0, .int .i64 0, .int .i64 0, .int .i64 0, .int .i64 c.p.n, .slice none 0 0]) (i := 0) (cs' := #[.int .i64 c.p.kind, .int .i64 0, .int .i64 0, .int .i64 0, .int .i64 0, .int .i64 0, .int .i64 0, .bool false, .int .i64 0, .int .i64 0, .int .i64 0, .int .i64 0, .int .i64 0, .int .i64 c.p.n, .slice none 0 0]) hb10 (k := fun w63 hb64 k65 => ?_)
            replace hb4 := k65.heap hb4 n13
            replace hb61 := k65.heap hb61 (Ne.symm n21)
            replace K := K.trans' k65 (fun i hi e => absurd (e ▸ hi) (Nat.not_lt.2 z12))
            clear hb10
            refine WL.nil ?_
            refine WX.seqN ?_
            refine WC.ret ?_
            refine WX.ret (rs := [.cell 2 39]) [.agg #[.int .i64 c.p.kind, .int .i64 0, .int .i64 0, .int .i64 0, .int .i64 0, .int .i64 0, .int .i64 0, .bool false, .int .i64 0, .int .i64 0, .int .i64 0, .int .i64 0, .int .i64 0, .int .i64 c.p.n, .slice none 0 0]] (.agg #[.int .i64 c.p.kind, .int .i64 0, .int .i64 0, .int .i64 0, .int .i64 0, .int .i64 0, .int .i64 0, .bool false, .int .i64 0, .int .i64 0, .int .i64 0, .int .i64 0, .int .i64 0, .int .i64 c.p.n, .slice none 0 0]) ⟨⟨_, (by kernel_rfl), ldN (T := 39) (i := 0) (m := 15) (l := [.int .i64 c.p.kind, .int .i64 0, .int .i64 0, .int .i64 0, .int .i64 0, .int .i64 0, .int .i64 0, .bool false, .int .i64 0, .int .i64 0, .int .i64 0, .int .i64 0, .int .i64 0, .int .i64 c.p.n, .slice none 0 0]) hb64⟩, trivial⟩ (k := ?_)
            exact ⟨by simp [GCmd.bare, PCmd.bare, GOp.zero, ph25, ph32, ph42, ph52, ph59], K⟩
          · have ph59 := ne_of_beq_false h59
            refine WC.seq ?_
            refine WC.region ?_
            refine WL.op (d := 30) (.bool (c.p.kind == 5)) (k := ?_)
            refine WL.op (d := 29) (.bool (c.p.kind == 5)) (k := ?_)
            refine WL.nil ?_
            refine WX.seqN ?_
            refine WC.cond (b := c.p.kind == 5) (ht := fun h66 => ?_) (hf := fun h66 => ?_)
            · have ph66 := eq_of_beq h66
              refine WC.region ?_
              refine WL.op (d := 31) (.pointer (some ⟨b1, 11, none⟩)) (k := ?_)
              refine WL.load (v := .int .i64 c.p.id) (ld1 (T := 3) (i := 11) hb4) (k := ?_)
              refine WL.op (d := 33) (.pointer (some ⟨b14, 11, none⟩)) (k := ?_)
              refine WL.store (v := .int .i64 c.p.id) (i := 11) (cs' := #[.int .i64 c.p.kind, .int .i64 0, .int .i64 0, .int .i64 0, .int .i64 0, .int .i64 0, .int .i64 0, .bool false, .int .i64 0, .int .i64 0, .int .i64 0, .int .i64 c.p.id, .int .i64 0, .int .i64 0, .slice none 0 0]) hb23 (k := fun w67 hb68 k69 => ?_)
              replace hb4 := k69.heap hb4 n20
              replace hb10 := k69.heap hb10 n21
              replace K := K.trans' k69 (fun i hi e => absurd (e ▸ hi) (Nat.not_lt.2 z19))
              clear hb23
              refine WL.nil ?_
              refine WX.blockN ?_
              refine WX.seqN ?_
              refine WC.seq ?_
              refine WC.region ?_
              refine WL.load (v := .agg #[.int .i64 c.p.kind, .int .i64 0, .int .i64 0, .int .i64 0, .int .i64 0, .int .i64 0, .int .i64 0, .bool false, .int .i64 0, .int .i64 0, .int .i64 0, .int .i64 c.p.id, .int .i64 0, .int .i64 0, .slice none 0 0]) (ldN (T := 39) (i := 0) (m := 15) (l := [.int .i64 c.p.kind, .int .i64 0, .int .i64 0, .int .i64 0, .int .i64 0, .int .i64 0, .int .i64 0, .bool false, .int .i64 0, .int .i64 0, .int .i64 0, .int .i64 c.p.id, .int .i64 0, .int .i64 0, .slice none 0 0]) hb68) (k := ?_)
              refine WL.store (v := .agg #[.int .i64 c.p.kind, .int .i64 0, .int .i64 0, .int .i64 0, .int .i64 0, .int .i64 0, .int .i64 0, .bool false, .int .i64 0, .int .i64 0, .int .i64 0, .int .i64 c.p.id, .int .i64 0, .int .i64 0, .slice none 0 0]) (i := 0) (cs' := #[.int .i64 c.p.kind, .int .i64 0, .int .i64 0, .int .i64 0, .int .i64 0, .int .i64 0, .int .i64 0, .bool false, .int .i64 0, .int .i64 0, .int .i64 0, .int .i64 c.p.id, .int .i64 0, .int .i64 0, .slice none 0 0]) hb10 (k := fun w70 hb71 k72 => ?_)
              replace hb4 := k72.heap hb4 n13
              replace hb68 := k72.heap hb68 (Ne.symm n21)
              replace K := K.trans' k72 (fun i hi e => absurd (e ▸ hi) (Nat.not_lt.2 z12))
              clear hb10
              refine WL.nil ?_
              refine WX.seqN ?_
              refine WC.ret ?_
              refine WX.ret (rs := [.cell 2 39]) [.agg #[.int .i64 c.p.kind, .int .i64 0, .int .i64 0, .int .i64 0, .int .i64 0, .int .i64 0, .int .i64 0, .bool false, .int .i64 0, .int .i64 0, .int .i64 0, .int .i64 c.p.id, .int .i64 0, .int .i64 0, .slice none 0 0]] (.agg #[.int .i64 c.p.kind, .int .i64 0, .int .i64 0, .int .i64 0, .int .i64 0, .int .i64 0, .int .i64 0, .bool false, .int .i64 0, .int .i64 0, .int .i64 0, .int .i64 c.p.id, .int .i64 0, .int .i64 0, .slice none 0 0]) ⟨⟨_, (by kernel_rfl), ldN (T := 39) (i := 0) (m := 15) (l := [.int .i64 c.p.kind, .int .i64 0, .int .i64 0, .int .i64 0, .int .i64 0, .int .i64 0, .int .i64 0, .bool false, .int .i64 0, .int .i64 0, .int .i64 0, .int .i64 c.p.id, .int .i64 0, .int .i64 0, .slice none 0 0]) hb71⟩, trivial⟩ (k := ?_)
              exact ⟨by simp [GCmd.bare, PCmd.bare, GOp.zero, ph25, ph32, ph42, ph52, ph59, ph66], K⟩
            · have ph66 := ne_of_beq_false h66
              refine WC.seq ?_
              refine WC.region ?_
              refine WL.op (d := 35) (.bool (c.p.kind == 8)) (k := ?_)
              refine WL.op (d := 34) (.bool (c.p.kind == 8)) (k := ?_)
              refine WL.nil ?_
              refine WX.seqN ?_
              refine WC.cond (b := c.p.kind == 8) (ht := fun h73 => ?_) (hf := fun h73 => ?_)
              · have ph73 := eq_of_beq h73
                refine WC.region ?_
                refine WL.op (d := 36) (.pointer (some ⟨b1, 14, none⟩)) (k := ?_)
                refine WL.load (v := .slice c.A c.p.fs.length c.cap) (ld1 (T := 37) (i := 14) hb4) (k := ?_)
                refine WL.op (d := 38) (.pointer (some ⟨b14, 14, none⟩)) (k := ?_)
                refine WL.store (v := .slice c.A c.p.fs.length c.cap) (i := 14) (cs' := #[.int .i64 c.p.kind, .int .i64 0, .int .i64 0, .int .i64 0, .int .i64 0, .int .i64 0, .int .i64 0, .bool false, .int .i64 0, .int .i64 0, .int .i64 0, .int .i64 0, .int .i64 0, .int .i64 0, .slice c.A c.p.fs.length c.cap]) hb23 (k := fun w74 hb75 k76 => ?_)
                replace hb4 := k76.heap hb4 n20
                replace hb10 := k76.heap hb10 n21
                replace K := K.trans' k76 (fun i hi e => absurd (e ▸ hi) (Nat.not_lt.2 z19))
                clear hb23
                refine WL.nil ?_
                refine WX.blockN ?_
                refine WX.seqN ?_
                refine WC.seq ?_
                refine WC.region ?_
                refine WL.load (v := .agg #[.int .i64 c.p.kind, .int .i64 0, .int .i64 0, .int .i64 0, .int .i64 0, .int .i64 0, .int .i64 0, .bool false, .int .i64 0, .int .i64 0, .int .i64 0, .int .i64 0, .int .i64 0, .int .i64 0, .slice c.A c.p.fs.length c.cap]) (ldN (T := 39) (i := 0) (m := 15) (l := [.int .i64 c.p.kind, .int .i64 0, .int .i64 0, .int .i64 0, .int .i64 0, .int .i64 0, .int .i64 0, .bool false, .int .i64 0, .int .i64 0, .int .i64 0, .int .i64 0, .int .i64 0, .int .i64 0, .slice c.A c.p.fs.length c.cap]) hb75) (k := ?_)
                refine WL.store (v := .agg #[.int .i64 c.p.kind, .int .i64 0, .int .i64 0, .int .i64 0, .int .i64 0, .int .i64 0, .int .i64 0, .bool false, .int .i64 0, .int .i64 0, .int .i64 0, .int .i64 0, .int .i64 0, .int .i64 0, .slice c.A c.p.fs.length c.cap]) (i := 0) (cs' := #[.int .i64 c.p.kind, .int .i64 0, .int .i64 0, .int .i64 0, .int .i64 0, .int .i64 0, .int .i64 0, .bool false, .int .i64 0, .int .i64 0, .int .i64 0, .int .i64 0, .int .i64 0, .int .i64 0, .slice c.A c.p.fs.length c.cap]) hb10 (k := fun w77 hb78 k79 => ?_)
                replace hb4 := k79.heap hb4 n13
                replace hb75 := k79.heap hb75 (Ne.symm n21)
                replace K := K.trans' k79 (fun i hi e => absurd (e ▸ hi) (Nat.not_lt.2 z12))
                clear hb10
                refine WL.nil ?_
                refine WX.seqN ?_
                refine WC.ret ?_
                refine WX.ret (rs := [.cell 2 39]) [.agg #[.int .i64 c.p.kind, .int .i64 0, .int .i64 0, .int .i64 0, .int .i64 0, .int .i64 0, .int .i64 0, .bool false, .int .i64 0, .int .i64 0, .int .i64 0, .int .i64 0, .int .i64 0, .int .i64 0, .slice c.A c.p.fs.length c.cap]] (.agg #[.int .i64 c.p.kind, .int .i64 0, .int .i64 0, .int .i64 0, .int .i64 0, .int .i64 0, .int .i64 0, .bool false, .int .i64 0, .int .i64 0, .int .i64 0, .int .i64 0, .int .i64 0, .int .i64 0, .slice c.A c.p.fs.length c.cap]) ⟨⟨_, (by kernel_rfl), ldN (T := 39) (i := 0) (m := 15) (l := [.int .i64 c.p.kind, .int .i64 0, .int .i64 0, .int .i64 0, .int .i64 0, .int .i64 0, .int .i64 0, .bool false, .int .i64 0, .int .i64 0, .int .i64 0, .int .i64 0, .int .i64 0, .int .i64 0, .slice c.A c.p.fs.length c.cap]) hb78⟩, trivial⟩ (k := ?_)
                exact ⟨by simp [GCmd.bare, PCmd.bare, GOp.zero, ph25, ph32, ph42, ph52, ph59, ph66, ph73], K⟩
              · have ph73 := ne_of_beq_false h73
                refine WC.skip ?_
                refine WX.blockN ?_
                refine WX.seqN ?_
                refine WC.seq ?_
                refine WC.region ?_
                refine WL.load (v := .agg #[.int .i64 c.p.kind, .int .i64 0, .int .i64 0, .int .i64 0, .int .i64 0, .int .i64 0, .int .i64 0, .bool false, .int .i64 0, .int .i64 0, .int .i64 0, .int .i64 0, .int .i64 0, .int .i64 0, .slice none 0 0]) (ldN (T := 39) (i := 0) (m := 15) (l := [.int .i64 c.p.kind, .int .i64 0, .int .i64 0, .int .i64 0, .int .i64 0, .int .i64 0, .int .i64 0, .bool false, .int .i64 0, .int .i64 0, .int .i64 0, .int .i64 0, .int .i64 0, .int .i64 0, .slice none 0 0]) hb23) (k := ?_)
                refine WL.store (v := .agg #[.int .i64 c.p.kind, .int .i64 0, .int .i64 0, .int .i64 0, .int .i64 0, .int .i64 0, .int .i64 0, .bool false, .int .i64 0, .int .i64 0, .int .i64 0, .int .i64 0, .int .i64 0, .int .i64 0, .slice none 0 0]) (i := 0) (cs' := #[.int .i64 c.p.kind, .int .i64 0, .int .i64 0, .int .i64 0, .int .i64 0, .int .i64 0, .int .i64 0, .bool false, .int .i64 0, .int .i64 0, .int .i64 0, .int .i64 0, .int .i64 0, .int .i64 0, .slice none 0 0]) hb10 (k := fun w80 hb81 k82 => ?_)
                replace hb4 := k82.heap hb4 n13
                replace hb23 := k82.heap hb23 (Ne.symm n21)
                replace K := K.trans' k82 (fun i hi e => absurd (e ▸ hi) (Nat.not_lt.2 z12))
                clear hb10
                refine WL.nil ?_
                refine WX.seqN ?_
                refine WC.ret ?_
                refine WX.ret (rs := [.cell 2 39]) [.agg #[.int .i64 c.p.kind, .int .i64 0, .int .i64 0, .int .i64 0, .int .i64 0, .int .i64 0, .int .i64 0, .bool false, .int .i64 0, .int .i64 0, .int .i64 0, .int .i64 0, .int .i64 0, .int .i64 0, .slice none 0 0]] (.agg #[.int .i64 c.p.kind, .int .i64 0, .int .i64 0, .int .i64 0, .int .i64 0, .int .i64 0, .int .i64 0, .bool false, .int .i64 0, .int .i64 0, .int .i64 0, .int .i64 0, .int .i64 0, .int .i64 0, .slice none 0 0]) ⟨⟨_, (by kernel_rfl), ldN (T := 39) (i := 0) (m := 15) (l := [.int .i64 c.p.kind, .int .i64 0, .int .i64 0, .int .i64 0, .int .i64 0, .int .i64 0, .int .i64 0, .bool false, .int .i64 0, .int .i64 0, .int .i64 0, .int .i64 0, .int .i64 0, .int .i64 0, .slice none 0 0]) hb81⟩, trivial⟩ (k := ?_)
                exact ⟨by simp [GCmd.bare, PCmd.bare, GOp.zero, ph25, ph32, ph42, ph52, ph59, ph66, ph73], K⟩
set_option maxRecDepth 100000 in
set_option maxHeartbeats 4000000 in
theorem sCheck_c {c : GCmd} {w : World} (hc : SlAt fateC 2 72 c.A c.p.fs w) (lc : c.p.fs.length ≤ 1000000000) : Calls Tryz.prog 33 #[c.val] w fun e w' => e = .returned (.bool (cokB c.p)) ∧ Adds w w' := by
  have K : Keeps (fun _ => False) w w := Keeps.refl _ w
  refine Calls.start Tryz.func33 rfl (by kernel_rfl) ?_
  refine WC.seq ?_
  refine WC.region ?_
  refine WL.new (d := 1) (T := 39) (Value.cells (GCmd.val c)) (k := fun b1 w2 g3 hb4 k5 => ?_)
  have z6 := Nat.le_trans K.size g3
  replace K := K.trans (k5.any _)
  refine WL.op (d := 2) (.bool false) (k := ?_)
  refine WL.nil ?_
  refine WX.seqN ?_
  refine WC.seq ?_
  refine WC.region ?_
  refine WL.op (d := 3) (.func (.func 54) #[] #[]) (k := ?_)
  refine WL.nil ?_
  refine WX.seqN ?_
  refine WC.seq ?_
  refine WC.block ?_
  refine WC.seq ?_
  refine WC.quiet (k := ?_)
  refine WQ.load (v := GCmd.val c) (fun w_ k_ => ldN (T := 39) (i := 0) (m := 15) (l := (Value.cells (GCmd.val c)).toList) (k_.heap hb4 id)) (k := ?_)
  refine WQ.load (v := GCmd.val c) (fun w_ k_ => ldN (T := 39) (i := 0) (m := 15) (l := (Value.cells (GCmd.val c)).toList) (k_.heap hb4 id)) (k := ?_)
  have hb7 := bare_sl hc
  have bl8 := bare_le c
  refine WQ.callG (d := 7) (f := 57) (args := #[GCmd.val c]) (v := GCmd.val (GCmd.bare c)) (fun w_ k_ => sBare_c c w_) addsR (k := ?_)
  refine WQ.callG (d := 8) (f := 56) (args := #[GCmd.val c, GCmd.val (GCmd.bare c)]) (v := .bool (decide (c.p = (GCmd.bare c).p))) (fun w_ k_ => sSame_c (x := c) (y := (GCmd.bare c)) ((hc.adds K).adds k_) ((hb7.adds K).adds k_) (by omega) (by omega)) addsR (k := ?_)
  refine WQ.op (d := 9) (.bool (!(decide (c.p = (GCmd.bare c).p)))) (k := ?_)
  refine WQ.op (d := 10) (.bool (!(decide (c.p = (GCmd.bare c).p)))) (k := ?_)
  refine bsplit (!(decide (c.p = (GCmd.bare c).p))) (fun h9 => ?_) (fun h9 => ?_)
  · have h10 : (decide (c.p = (GCmd.bare c).p)) = false := Bool.not_inj (y := false) h9
    have ph10 := of_decide_eq_false h10
    refine WQ.rw (t := 10) (v := .bool true) (congrArg Value.bool h9) (k := ?_)
    refine WQ.skip (d := 11) (k := ?_)
    refine WQ.skip (d := 12) (k := ?_)
    refine WQ.skip (d := 13) (k := ?_)
    refine WQ.op (d := 14) (.bool true) (k := ?_)
    refine WQ.op (d := 15) (.bool true) (k := ?_)
    refine WQ.skip (d := 16) (k := ?_)
    refine WQ.skip (d := 17) (k := ?_)
    refine WQ.skip (d := 18) (k := ?_)
    refine WQ.op (d := 19) (.bool true) (k := ?_)
    refine WQ.op (d := 4) (.bool true) (k := ?_)
    refine WQ.nilX (fun w11 k12 => ?_)
    replace hb4 := k12.heap hb4 id
    replace K := K.trans (k12.any _)
    refine WX.seqN ?_
    refine WC.condT (k := ?_)
    refine WC.seq ?_
    refine WC.region ?_
    refine WL.op (d := 2) (.bool false) (k := ?_)
    refine WL.nil ?_
    refine WX.seqN ?_
    refine WC.ret ?_
    refine WX.blockR ?_
    refine WX.seqR ?_
    refine WX.ret (rs := [.tmp 2]) [.bool false] (.bool false) ⟨(by kernel_rfl), trivial⟩ (k := ?_)
    exact ⟨ret_bool (cok_ne ph10), K⟩
  have h13 : (decide (c.p = (GCmd.bare c).p)) = true := Bool.not_inj (y := true) h9
  have ph13 := of_decide_eq_true h13
  refine WQ.rw (t := 10) (v := .bool false) (congrArg Value.bool h9) (k := ?_)
  refine WQ.op (d := 11) (.pointer (some ⟨b1, 0, none⟩)) (k := ?_)
  refine WQ.load (v := .int .i64 c.p.kind) (fun w_ k_ => ld1 (T := 3) (i := 0) (k_.heap hb4 id)) (k := ?_)
  refine WQ.op (d := 13) (.bool (decide (c.p.kind < 1))) (k := ?_)
  refine WQ.op (d := 14) (.bool (decide (c.p.kind < 1))) (k := ?_)
  refine WQ.op (d := 15) (.bool (decide (c.p.kind < 1))) (k := ?_)
  refine bsplit (decide (c.p.kind < 1)) (fun h14 => ?_) (fun h14 => ?_)
  · have ph14 := of_decide_eq_true h14
    refine WQ.rw (t := 15) (v := .bool true) (congrArg Value.bool h14) (k := ?_)
    refine WQ.skip (d := 16) (k := ?_)
    refine WQ.skip (d := 17) (k := ?_)
    refine WQ.skip (d := 18) (k := ?_)
    refine WQ.op (d := 19) (.bool true) (k := ?_)
    refine WQ.op (d := 4) (.bool true) (k := ?_)
    refine WQ.nilX (fun w15 k16 => ?_)
    replace hb4 := k16.heap hb4 id
    replace K := K.trans (k16.any _)
    refine WX.seqN ?_
    refine WC.condT (k := ?_)
    refine WC.seq ?_
    refine WC.region ?_
    refine WL.op (d := 2) (.bool false) (k := ?_)
    refine WL.nil ?_
    refine WX.seqN ?_
    refine WC.ret ?_
    refine WX.blockR ?_
    refine WX.seqR ?_
    refine WX.ret (rs := [.tmp 2]) [.bool false] (.bool false) ⟨(by kernel_rfl), trivial⟩ (k := ?_)
    exact ⟨ret_bool (cok_rng (fun k => by simp only [PCmd.rngs] at k; omega)), K⟩
  have ph14 := of_decide_eq_false h14
  refine WQ.rw (t := 15) (v := .bool false) (congrArg Value.bool h14) (k := ?_)
  refine WQ.op (d := 16) (.pointer (some ⟨b1, 0, none⟩)) (k := ?_)
  refine WQ.load (v := .int .i64 c.p.kind) (fun w_ k_ => ld1 (T := 3) (i := 0) (k_.heap hb4 id)) (k := ?_)
  refine WQ.op (d := 18) (.bool (decide (c.p.kind > 9))) (k := ?_)
  refine WQ.op (d := 19) (.bool (decide (c.p.kind > 9))) (k := ?_)
  refine WQ.op (d := 4) (.bool (decide (c.p.kind > 9))) (k := ?_)
  refine WQ.nilX (fun w17 k18 => ?_)
  replace hb4 := k18.heap hb4 id
  replace K := K.trans (k18.any _)
  refine WX.seqN ?_
  refine WC.cond (b := decide (c.p.kind > 9)) (ht := fun h19 => ?_) (hf := fun h19 => ?_)
  · have ph19 := of_decide_eq_true h19
    refine WC.seq ?_
    refine WC.region ?_
    refine WL.op (d := 2) (.bool false) (k := ?_)
    refine WL.nil ?_
    refine WX.seqN ?_
    refine WC.ret ?_
    refine WX.blockR ?_
    refine WX.seqR ?_
    refine WX.ret (rs := [.tmp 2]) [.bool false] (.bool false) ⟨(by kernel_rfl), trivial⟩ (k := ?_)
    exact ⟨ret_bool (cok_rng (fun k => by simp only [PCmd.rngs] at k; omega)), K⟩
  · have ph19 := of_decide_eq_false h19
    refine WC.seq ?_
    refine WC.region ?_
    refine WL.op (d := 21) (.pointer (some ⟨b1, 0, none⟩)) (k := ?_)
    refine WL.load (v := .int .i64 c.p.kind) (ld1 (T := 3) (i := 0) hb4) (k := ?_)
    refine WL.op (d := 23) (.bool (c.p.kind == 1)) (k := ?_)
    refine WL.op (d := 20) (.bool (c.p.kind == 1)) (k := ?_)
    refine WL.nil ?_
    refine WX.seqN ?_
    refine WC.cond (b := c.p.kind == 1) (ht := fun h20 => ?_) (hf := fun h20 => ?_)
    · have ph20 := eq_of_beq h20
      refine WC.seq ?_
      refine WC.region ?_
      refine WL.op (d := 24) (.pointer (some ⟨b1, 1, none⟩)) (k := ?_)
      refine WL.load (v := GOp.val c.p.op) (ldN (T := 36) (i := 1) (m := 10) (l := (Value.cells (GOp.val c.p.op)).toList) hb4) (k := ?_)
      refine WL.callG (d := 26) (f := 58) (args := #[GOp.val c.p.op]) (pOCheck_c c.p.op w17) (k := fun e_ w21 h_ => ⟨.bool (decide (GOp.ok c.p.op)), h_.1, ?_⟩)
      have k22 := h_.2; clear h_
      replace hb4 := k22.heap hb4 id
      replace K := K.trans (k22.any _)
      refine WL.op (d := 2) (.bool (decide (GOp.ok c.p.op))) (k := ?_)
      refine WL.nil ?_
      refine WX.seqN ?_
      refine WC.ret ?_
      refine WX.blockR ?_
      refine WX.seqR ?_
      refine WX.ret (rs := [.tmp 2]) [.bool (decide (GOp.ok c.p.op))] (.bool (decide (GOp.ok c.p.op))) ⟨(by kernel_rfl), trivial⟩ (k := ?_)
      exact ⟨ret_bool (cok_op ph13 (by omega)), K⟩
    · have ph20 := ne_of_beq_false h20
      refine WC.skip ?_
      refine WX.blockN ?_
      refine WX.seqN ?_
      refine WC.seq ?_
      refine WC.region ?_
      refine WL.op (d := 27) (.pointer (some ⟨b1, 11, none⟩)) (k := ?_)
      refine WL.load (v := .int .i64 c.p.id) (ld1 (T := 3) (i := 11) hb4) (k := ?_)
      refine WL.callG (d := 29) (f := 55) (args := #[.int .i64 c.p.id, .int .i64 1023]) (sWithin_c c.p.id 1023 w17) (k := fun e_ w23 h_ => ⟨.bool (decide (0 ≤ c.p.id ∧ c.p.id ≤ 1023)), h_.1, ?_⟩)
      have k24 := h_.2; clear h_
      replace hb4 := k24.heap hb4 id
      replace K := K.trans (k24.any _)
      refine WL.op (d := 30) (.bool (decide (0 ≤ c.p.id ∧ c.p.id ≤ 1023))) (k := ?_)
      refine bsplit (decide (0 ≤ c.p.id ∧ c.p.id ≤ 1023)) (fun h25 => ?_) (fun h25 => ?_)
      · have ph25 := of_decide_eq_true h25
        refine WL.rw (t := 30) (v := .bool true) (congrArg Value.bool h25) (k := ?_)
        refine WL.op (d := 31) (.pointer (some ⟨b1, 12, none⟩)) (k := ?_)
        refine WL.load (v := .int .i64 c.p.work) (ld1 (T := 2) (i := 12) hb4) (k := ?_)
        refine WL.callG (d := 33) (f := 55) (args := #[.int .i64 c.p.work, .int .i64 2147483648]) (sWithin_c c.p.work 2147483648 w23) (k := fun e_ w26 h_ => ⟨.bool (decide (0 ≤ c.p.work ∧ c.p.work ≤ 2147483648)), h_.1, ?_⟩)
        have k27 := h_.2; clear h_
        replace hb4 := k27.heap hb4 id
        replace K := K.trans (k27.any _)
        refine WL.op (d := 34) (.bool (decide (0 ≤ c.p.work ∧ c.p.work ≤ 2147483648))) (k := ?_)
        refine WL.op (d := 35) (.bool (decide (0 ≤ c.p.work ∧ c.p.work ≤ 2147483648))) (k := ?_)
        refine bsplit (decide (0 ≤ c.p.work ∧ c.p.work ≤ 2147483648)) (fun h28 => ?_) (fun h28 => ?_)
        · have ph28 := of_decide_eq_true h28
          refine WL.rw (t := 35) (v := .bool true) (congrArg Value.bool h28) (k := ?_)
          refine WL.op (d := 36) (.pointer (some ⟨b1, 13, none⟩)) (k := ?_)
          refine WL.load (v := .int .i64 c.p.n) (ld1 (T := 3) (i := 13) hb4) (k := ?_)
          refine WL.callG (d := 38) (f := 55) (args := #[.int .i64 c.p.n, .int .i64 1048576]) (sWithin_c c.p.n 1048576 w26) (k := fun e_ w29 h_ => ⟨.bool (decide (0 ≤ c.p.n ∧ c.p.n ≤ 1048576)), h_.1, ?_⟩)
          have k30 := h_.2; clear h_
          replace hb4 := k30.heap hb4 id
          replace K := K.trans (k30.any _)
          refine WL.op (d := 39) (.bool (decide (0 ≤ c.p.n ∧ c.p.n ≤ 1048576))) (k := ?_)
          refine WL.op (d := 40) (.bool (decide (0 ≤ c.p.n ∧ c.p.n ≤ 1048576))) (k := ?_)
          refine bsplit (decide (0 ≤ c.p.n ∧ c.p.n ≤ 1048576)) (fun h31 => ?_) (fun h31 => ?_)
          · have ph31 := of_decide_eq_true h31
            refine WL.rw (t := 40) (v := .bool true) (congrArg Value.bool h31) (k := ?_)
            refine WL.op (d := 41) (.pointer (some ⟨b1, 14, none⟩)) (k := ?_)
            refine WL.load (v := .slice c.A c.p.fs.length c.cap) (ld1 (T := 37) (i := 14) hb4) (k := ?_)
            refine WL.op (d := 43) (.int .i64 (c.p.fs.length : Int)) (k := ?_)
            refine WL.op (d := 44) (.bool (decide ((c.p.fs.length : Int) ≤ 64))) (k := ?_)
            refine WL.op (d := 45) (.bool (decide ((c.p.fs.length : Int) ≤ 64))) (k := ?_)
            refine WL.op (d := 46) (.bool (decide ((c.p.fs.length : Int) ≤ 64))) (k := ?_)
            refine bsplit (decide ((c.p.fs.length : Int) ≤ 64)) (fun h32 => ?_) (fun h32 => ?_)
            · have ph32 := of_decide_eq_true h32
              refine WL.rw (t := 46) (v := .bool true) (congrArg Value.bool h32) (k := ?_)
              refine WL.op (d := 47) (.pointer (some ⟨b1, 14, none⟩)) (k := ?_)
              refine WL.load (v := .slice c.A c.p.fs.length c.cap) (ld1 (T := 37) (i := 14) hb4) (k := ?_)
              refine WL.op (d := 49) (.func (.func 54) #[] #[]) (k := ?_)
              refine WL.callG (d := 50) (f := 59) (args := #[.slice c.A c.p.fs.length c.cap, .func (.func 54) #[] #[]]) (sContF_c (cp := c.cap) (hc.adds K) (by omega)) (k := fun e_ w33 h_ => ⟨.bool (!(okFs c.p.fs)), h_.1, ?_⟩)
              have k34 := h_.2; clear h_
              replace hb4 := k34.heap hb4 id
              replace K := K.trans (k34.any _)
              refine WL.op (d := 51) (.bool (!(!(okFs c.p.fs)))) (k := ?_)
              refine WL.op (d := 52) (.bool (!(!(okFs c.p.fs)))) (k := ?_)
              refine WL.op (d := 2) (.bool (!(!(okFs c.p.fs)))) (k := ?_)
              refine WL.nil ?_
              refine WX.seqN ?_
              refine WC.ret ?_
              refine WX.ret (rs := [.tmp 2]) [.bool (!(!(okFs c.p.fs)))] (.bool (!(!(okFs c.p.fs)))) ⟨(by kernel_rfl), trivial⟩ (k := ?_)
              exact ⟨ret_bool ((Bool.not_not _).trans (cok_end ph13 (by simp only [PCmd.rngs]; omega) (by omega))), K⟩
            have ph32 := of_decide_eq_false h32
            refine WL.rw (t := 46) (v := .bool false) (congrArg Value.bool h32) (k := ?_)
            refine WL.skip (d := 47) (k := ?_)
            refine WL.skip (d := 48) (k := ?_)
            refine WL.skip (d := 49) (k := ?_)
            refine WL.skip (d := 50) (k := ?_)
            refine WL.skip (d := 51) (k := ?_)
            refine WL.op (d := 52) (.bool false) (k := ?_)
            refine WL.op (d := 2) (.bool false) (k := ?_)
            refine WL.nil ?_
            refine WX.seqN ?_
            refine WC.ret ?_
            refine WX.ret (rs := [.tmp 2]) [.bool false] (.bool false) ⟨(by kernel_rfl), trivial⟩ (k := ?_)
            exact ⟨ret_bool (cok_rng (fun k => by simp only [PCmd.rngs] at k; omega)), K⟩
          have ph31 := of_decide_eq_false h31
          refine WL.rw (t := 40) (v := .bool false) (congrArg Value.bool h31) (k := ?_)
          refine WL.skip (d := 41) (k := ?_)
          refine WL.skip (d := 42) (k := ?_)
          refine WL.skip (d := 43) (k := ?_)
          refine WL.skip (d := 44) (k := ?_)
          refine WL.op (d := 45) (.bool false) (k := ?_)
          refine WL.op (d := 46) (.bool false) (k := ?_)
          refine WL.skip (d := 47) (k := ?_)
          refine WL.skip (d := 48) (k := ?_)
          refine WL.skip (d := 49) (k := ?_)
          refine WL.skip (d := 50) (k := ?_)
          refine WL.skip (d := 51) (k := ?_)
          refine WL.op (d := 52) (.bool false) (k := ?_)
          refine WL.op (d := 2) (.bool false) (k := ?_)
          refine WL.nil ?_
          refine WX.seqN ?_
          refine WC.ret ?_
          refine WX.ret (rs := [.tmp 2]) [.bool false] (.bool false) ⟨(by kernel_rfl), trivial⟩ (k := ?_)
          exact ⟨ret_bool (cok_rng (fun k => by simp only [PCmd.rngs] at k; omega)), K⟩
        have ph28 := of_decide_eq_false h28
        refine WL.rw (t := 35) (v := .bool false) (congrArg Value.bool h28) (k := ?_)
        refine WL.skip (d := 36) (k := ?_)
        refine WL.skip (d := 37) (k := ?_)
        refine WL.skip (d := 38) (k := ?_)
        refine WL.op (d := 39) (.bool false) (k := ?_)
        refine WL.op (d := 40) (.bool false) (k := ?_)
        refine WL.skip (d := 41) (k := ?_)
        refine WL.skip (d := 42) (k := ?_)
        refine WL.skip (d := 43) (k := ?_)
        refine WL.skip (d := 44) (k := ?_)
        refine WL.op (d := 45) (.bool false) (k := ?_)
        refine WL.op (d := 46) (.bool false) (k := ?_)
        refine WL.skip (d := 47) (k := ?_)
        refine WL.skip (d := 48) (k := ?_)
        refine WL.skip (d := 49) (k := ?_)
        refine WL.skip (d := 50) (k := ?_)
        refine WL.skip (d := 51) (k := ?_)
        refine WL.op (d := 52) (.bool false) (k := ?_)
        refine WL.op (d := 2) (.bool false) (k := ?_)
        refine WL.nil ?_
        refine WX.seqN ?_
        refine WC.ret ?_
        refine WX.ret (rs := [.tmp 2]) [.bool false] (.bool false) ⟨(by kernel_rfl), trivial⟩ (k := ?_)
        exact ⟨ret_bool (cok_rng (fun k => by simp only [PCmd.rngs] at k; omega)), K⟩
      have ph25 := of_decide_eq_false h25
      refine WL.rw (t := 30) (v := .bool false) (congrArg Value.bool h25) (k := ?_)
      refine WL.skip (d := 31) (k := ?_)
      refine WL.skip (d := 32) (k := ?_)
      refine WL.skip (d := 33) (k := ?_)
      refine WL.op (d := 34) (.bool false) (k := ?_)
      refine WL.op (d := 35) (.bool false) (k := ?_)
      refine WL.skip (d := 36) (k := ?_)
      refine WL.skip (d := 37) (k := ?_)
      refine WL.skip (d := 38) (k := ?_)
      refine WL.op (d := 39) (.bool false) (k := ?_)
      refine WL.op (d := 40) (.bool false) (k := ?_)
      refine WL.skip (d := 41) (k := ?_)
      refine WL.skip (d := 42) (k := ?_)
      refine WL.skip (d := 43) (k := ?_)
      refine WL.skip (d := 44) (k := ?_)
      refine WL.op (d := 45) (.bool false) (k := ?_)
      refine WL.op (d := 46) (.bool false) (k := ?_)
      refine WL.skip (d := 47) (k := ?_)
      refine WL.skip (d := 48) (k := ?_)
      refine WL.skip (d := 49) (k := ?_)
      refine WL.skip (d := 50) (k := ?_)
      refine WL.skip (d := 51) (k := ?_)
      refine WL.op (d := 52) (.bool false) (k := ?_)
      refine WL.op (d := 2) (.bool false) (k := ?_)
      refine WL.nil ?_
      refine WX.seqN ?_
      refine WC.ret ?_
      refine WX.ret (rs := [.tmp 2]) [.bool false] (.bool false) ⟨(by kernel_rfl), trivial⟩ (k := ?_)
      exact ⟨ret_bool (cok_rng (fun k => by simp only [PCmd.rngs] at k; omega)), K⟩
set_option maxRecDepth 100000 in
set_option maxHeartbeats 4000000 in
theorem u23Check_c {c : GCmd} {w : World} (hc : SlAt fateC 2 72 c.A c.p.fs w) (lc : c.p.fs.length ≤ 1000000000) : Calls Tryz.prog 26 #[c.val] w fun e w' => e = .returned (.bool (cokB c.p)) ∧ Adds w w' := by
  have K : Keeps (fun _ => False) w w := Keeps.refl _ w
  refine Calls.start Tryz.func26 rfl (by kernel_rfl) ?_
  refine WC.seq ?_
  refine WC.region ?_
  refine WL.new (d := 1) (T := 39) (Value.cells (GCmd.val c)) (k := fun b1 w2 g3 hb4 k5 => ?_)
  have z6 := Nat.le_trans K.size g3
  replace K := K.trans (k5.any _)
  refine WL.op (d := 2) (.bool false) (k := ?_)
  refine WL.nil ?_
  refine WX.seqN ?_
  refine WC.seq ?_
  refine WC.quiet (k := ?_)
  refine WQ.load (v := GCmd.val c) (fun w_ k_ => ldN (T := 39) (i := 0) (m := 15) (l := (Value.cells (GCmd.val c)).toList) (k_.heap hb4 id)) (k := ?_)
  refine WQ.load (v := GCmd.val c) (fun w_ k_ => ldN (T := 39) (i := 0) (m := 15) (l := (Value.cells (GCmd.val c)).toList) (k_.heap hb4 id)) (k := ?_)
  have hb7 := bare_sl hc
  have bl8 := bare_le c
  refine WQ.callG (d := 8) (f := 51) (args := #[GCmd.val c]) (v := GCmd.val (GCmd.bare c)) (fun w_ k_ => u23bare_c c w_) addsR (k := ?_)
  refine WQ.callG (d := 9) (f := 27) (args := #[GCmd.val c, GCmd.val (GCmd.bare c)]) (v := .bool (decide (c.p = (GCmd.bare c).p))) (fun w_ k_ => u23Same_c (x := c) (y := (GCmd.bare c)) ((hc.adds K).adds k_) ((hb7.adds K).adds k_) (by omega) (by omega)) addsR (k := ?_)
  refine WQ.op (d := 3) (.bool (decide (c.p = (GCmd.bare c).p))) (k := ?_)
  refine WQ.nilX (fun w9 k10 => ?_)
  replace hb4 := k10.heap hb4 id
  replace K := K.trans (k10.any _)
  refine WX.seqN ?_
  refine WC.seq ?_
  refine WC.seq ?_
  refine WC.region ?_
  refine WL.op (d := 10) (.bool (decide (c.p = (GCmd.bare c).p))) (k := ?_)
  refine WL.op (d := 11) (.bool (!(decide (c.p = (GCmd.bare c).p)))) (k := ?_)
  refine WL.op (d := 12) (.bool (!(decide (c.p = (GCmd.bare c).p)))) (k := ?_)
  refine bsplit (!(decide (c.p = (GCmd.bare c).p))) (fun h11 => ?_) (fun h11 => ?_)
  · have h12 : (decide (c.p = (GCmd.bare c).p)) = false := Bool.not_inj (y := false) h11
    have ph12 := of_decide_eq_false h12
    refine WL.rw (t := 12) (v := .bool true) (congrArg Value.bool h11) (k := ?_)
    refine WL.skip (d := 13) (k := ?_)
    refine WL.skip (d := 14) (k := ?_)
    refine WL.skip (d := 15) (k := ?_)
    refine WL.op (d := 16) (.bool true) (k := ?_)
    refine WL.op (d := 17) (.bool true) (k := ?_)
    refine WL.skip (d := 18) (k := ?_)
    refine WL.skip (d := 19) (k := ?_)
    refine WL.skip (d := 20) (k := ?_)
    refine WL.op (d := 21) (.bool true) (k := ?_)
    refine WL.op (d := 22) (.bool true) (k := ?_)
    refine WL.skip (d := 23) (k := ?_)
    refine WL.skip (d := 24) (k := ?_)
    refine WL.skip (d := 25) (k := ?_)
    refine WL.op (d := 26) (.bool true) (k := ?_)
    refine WL.op (d := 27) (.bool true) (k := ?_)
    refine WL.skip (d := 28) (k := ?_)
    refine WL.skip (d := 29) (k := ?_)
    refine WL.skip (d := 30) (k := ?_)
    refine WL.op (d := 31) (.bool true) (k := ?_)
    refine WL.op (d := 32) (.bool true) (k := ?_)
    refine WL.skip (d := 33) (k := ?_)
    refine WL.skip (d := 34) (k := ?_)
    refine WL.skip (d := 35) (k := ?_)
    refine WL.op (d := 36) (.bool true) (k := ?_)
    refine WL.op (d := 37) (.bool true) (k := ?_)
    refine WL.skip (d := 38) (k := ?_)
    refine WL.skip (d := 39) (k := ?_)
    refine WL.skip (d := 40) (k := ?_)
    refine WL.op (d := 41) (.bool true) (k := ?_)
    refine WL.op (d := 42) (.bool true) (k := ?_)
    refine WL.skip (d := 43) (k := ?_)
    refine WL.skip (d := 44) (k := ?_)
    refine WL.skip (d := 45) (k := ?_)
    refine WL.op (d := 46) (.bool true) (k := ?_)
    refine WL.op (d := 47) (.bool true) (k := ?_)
    refine WL.skip (d := 48) (k := ?_)
    refine WL.skip (d := 49) (k := ?_)
    refine WL.skip (d := 50) (k := ?_)
    refine WL.op (d := 51) (.bool true) (k := ?_)
    refine WL.op (d := 52) (.bool true) (k := ?_)
    refine WL.skip (d := 53) (k := ?_)
    refine WL.skip (d := 54) (k := ?_)
    refine WL.skip (d := 55) (k := ?_)
    refine WL.skip (d := 56) (k := ?_)
    refine WL.op (d := 57) (.bool true) (k := ?_)
    refine WL.nil ?_
    refine WX.seqN ?_
    refine WC.condT (k := ?_)
    refine WC.seq ?_
    refine WC.region ?_
    refine WL.op (d := 2) (.bool false) (k := ?_)
    refine WL.nil ?_
    refine WX.seqN ?_
    refine WC.ret ?_
    refine WX.seqR ?_
    refine WX.ret (rs := [.tmp 2]) [.bool false] (.bool false) ⟨(by kernel_rfl), trivial⟩ (k := ?_)
    exact ⟨ret_bool (cok_ne ph12), K⟩
  have h13 : (decide (c.p = (GCmd.bare c).p)) = true := Bool.not_inj (y := true) h11
  have ph13 := of_decide_eq_true h13
  refine WL.rw (t := 12) (v := .bool false) (congrArg Value.bool h11) (k := ?_)
  refine WL.op (d := 13) (.pointer (some ⟨b1, 0, none⟩)) (k := ?_)
  refine WL.load (v := .int .i64 c.p.kind) (ld1 (T := 3) (i := 0) hb4) (k := ?_)
  refine WL.op (d := 15) (.bool (decide (c.p.kind < 1))) (k := ?_)
  refine WL.op (d := 16) (.bool (decide (c.p.kind < 1))) (k := ?_)
  refine WL.op (d := 17) (.bool (decide (c.p.kind < 1))) (k := ?_)
  refine bsplit (decide (c.p.kind < 1)) (fun h14 => ?_) (fun h14 => ?_)
  · have ph14 := of_decide_eq_true h14
    refine WL.rw (t := 17) (v := .bool true) (congrArg Value.bool h14) (k := ?_)
    refine WL.skip (d := 18) (k := ?_)
    refine WL.skip (d := 19) (k := ?_)
    refine WL.skip (d := 20) (k := ?_)
    refine WL.op (d := 21) (.bool true) (k := ?_)
    refine WL.op (d := 22) (.bool true) (k := ?_)
    refine WL.skip (d := 23) (k := ?_)
    refine WL.skip (d := 24) (k := ?_)
    refine WL.skip (d := 25) (k := ?_)
    refine WL.op (d := 26) (.bool true) (k := ?_)
    refine WL.op (d := 27) (.bool true) (k := ?_)
    refine WL.skip (d := 28) (k := ?_)
    refine WL.skip (d := 29) (k := ?_)
    refine WL.skip (d := 30) (k := ?_)
    refine WL.op (d := 31) (.bool true) (k := ?_)
    refine WL.op (d := 32) (.bool true) (k := ?_)
    refine WL.skip (d := 33) (k := ?_)
    refine WL.skip (d := 34) (k := ?_)
    refine WL.skip (d := 35) (k := ?_)
    refine WL.op (d := 36) (.bool true) (k := ?_)
    refine WL.op (d := 37) (.bool true) (k := ?_)
    refine WL.skip (d := 38) (k := ?_)
    refine WL.skip (d := 39) (k := ?_)
    refine WL.skip (d := 40) (k := ?_)
    refine WL.op (d := 41) (.bool true) (k := ?_)
    refine WL.op (d := 42) (.bool true) (k := ?_)
    refine WL.skip (d := 43) (k := ?_)
    refine WL.skip (d := 44) (k := ?_)
    refine WL.skip (d := 45) (k := ?_)
    refine WL.op (d := 46) (.bool true) (k := ?_)
    refine WL.op (d := 47) (.bool true) (k := ?_)
    refine WL.skip (d := 48) (k := ?_)
    refine WL.skip (d := 49) (k := ?_)
    refine WL.skip (d := 50) (k := ?_)
    refine WL.op (d := 51) (.bool true) (k := ?_)
    refine WL.op (d := 52) (.bool true) (k := ?_)
    refine WL.skip (d := 53) (k := ?_)
    refine WL.skip (d := 54) (k := ?_)
    refine WL.skip (d := 55) (k := ?_)
    refine WL.skip (d := 56) (k := ?_)
    refine WL.op (d := 57) (.bool true) (k := ?_)
    refine WL.nil ?_
    refine WX.seqN ?_
    refine WC.condT (k := ?_)
    refine WC.seq ?_
    refine WC.region ?_
    refine WL.op (d := 2) (.bool false) (k := ?_)
    refine WL.nil ?_
    refine WX.seqN ?_
    refine WC.ret ?_
    refine WX.seqR ?_
    refine WX.ret (rs := [.tmp 2]) [.bool false] (.bool false) ⟨(by kernel_rfl), trivial⟩ (k := ?_)
    exact ⟨ret_bool (cok_rng (fun k => by simp only [PCmd.rngs] at k; omega)), K⟩
  have ph14 := of_decide_eq_false h14
  refine WL.rw (t := 17) (v := .bool false) (congrArg Value.bool h14) (k := ?_)
  refine WL.op (d := 18) (.pointer (some ⟨b1, 0, none⟩)) (k := ?_)
  refine WL.load (v := .int .i64 c.p.kind) (ld1 (T := 3) (i := 0) hb4) (k := ?_)
  refine WL.op (d := 20) (.bool (decide (c.p.kind > 9))) (k := ?_)
  refine WL.op (d := 21) (.bool (decide (c.p.kind > 9))) (k := ?_)
  refine WL.op (d := 22) (.bool (decide (c.p.kind > 9))) (k := ?_)
  refine bsplit (decide (c.p.kind > 9)) (fun h15 => ?_) (fun h15 => ?_)
  · have ph15 := of_decide_eq_true h15
    refine WL.rw (t := 22) (v := .bool true) (congrArg Value.bool h15) (k := ?_)
    refine WL.skip (d := 23) (k := ?_)
    refine WL.skip (d := 24) (k := ?_)
    refine WL.skip (d := 25) (k := ?_)
    refine WL.op (d := 26) (.bool true) (k := ?_)
    refine WL.op (d := 27) (.bool true) (k := ?_)
    refine WL.skip (d := 28) (k := ?_)
    refine WL.skip (d := 29) (k := ?_)
    refine WL.skip (d := 30) (k := ?_)
    refine WL.op (d := 31) (.bool true) (k := ?_)
    refine WL.op (d := 32) (.bool true) (k := ?_)
    refine WL.skip (d := 33) (k := ?_)
    refine WL.skip (d := 34) (k := ?_)
    refine WL.skip (d := 35) (k := ?_)
    refine WL.op (d := 36) (.bool true) (k := ?_)
    refine WL.op (d := 37) (.bool true) (k := ?_)
    refine WL.skip (d := 38) (k := ?_)
    refine WL.skip (d := 39) (k := ?_)
    refine WL.skip (d := 40) (k := ?_)
    refine WL.op (d := 41) (.bool true) (k := ?_)
    refine WL.op (d := 42) (.bool true) (k := ?_)
    refine WL.skip (d := 43) (k := ?_)
    refine WL.skip (d := 44) (k := ?_)
    refine WL.skip (d := 45) (k := ?_)
    refine WL.op (d := 46) (.bool true) (k := ?_)
    refine WL.op (d := 47) (.bool true) (k := ?_)
    refine WL.skip (d := 48) (k := ?_)
    refine WL.skip (d := 49) (k := ?_)
    refine WL.skip (d := 50) (k := ?_)
    refine WL.op (d := 51) (.bool true) (k := ?_)
    refine WL.op (d := 52) (.bool true) (k := ?_)
    refine WL.skip (d := 53) (k := ?_)
    refine WL.skip (d := 54) (k := ?_)
    refine WL.skip (d := 55) (k := ?_)
    refine WL.skip (d := 56) (k := ?_)
    refine WL.op (d := 57) (.bool true) (k := ?_)
    refine WL.nil ?_
    refine WX.seqN ?_
    refine WC.condT (k := ?_)
    refine WC.seq ?_
    refine WC.region ?_
    refine WL.op (d := 2) (.bool false) (k := ?_)
    refine WL.nil ?_
    refine WX.seqN ?_
    refine WC.ret ?_
    refine WX.seqR ?_
    refine WX.ret (rs := [.tmp 2]) [.bool false] (.bool false) ⟨(by kernel_rfl), trivial⟩ (k := ?_)
    exact ⟨ret_bool (cok_rng (fun k => by simp only [PCmd.rngs] at k; omega)), K⟩
  have ph15 := of_decide_eq_false h15
  refine WL.rw (t := 22) (v := .bool false) (congrArg Value.bool h15) (k := ?_)
  refine WL.op (d := 23) (.pointer (some ⟨b1, 11, none⟩)) (k := ?_)
  refine WL.load (v := .int .i64 c.p.id) (ld1 (T := 3) (i := 11) hb4) (k := ?_)
  refine WL.op (d := 25) (.bool (decide (c.p.id < 0))) (k := ?_)
  refine WL.op (d := 26) (.bool (decide (c.p.id < 0))) (k := ?_)
  refine WL.op (d := 27) (.bool (decide (c.p.id < 0))) (k := ?_)
  refine bsplit (decide (c.p.id < 0)) (fun h16 => ?_) (fun h16 => ?_)
  · have ph16 := of_decide_eq_true h16
    refine WL.rw (t := 27) (v := .bool true) (congrArg Value.bool h16) (k := ?_)
    refine WL.skip (d := 28) (k := ?_)
    refine WL.skip (d := 29) (k := ?_)
    refine WL.skip (d := 30) (k := ?_)
    refine WL.op (d := 31) (.bool true) (k := ?_)
    refine WL.op (d := 32) (.bool true) (k := ?_)
    refine WL.skip (d := 33) (k := ?_)
    refine WL.skip (d := 34) (k := ?_)
    refine WL.skip (d := 35) (k := ?_)
    refine WL.op (d := 36) (.bool true) (k := ?_)
    refine WL.op (d := 37) (.bool true) (k := ?_)
    refine WL.skip (d := 38) (k := ?_)
    refine WL.skip (d := 39) (k := ?_)
    refine WL.skip (d := 40) (k := ?_)
    refine WL.op (d := 41) (.bool true) (k := ?_)
    refine WL.op (d := 42) (.bool true) (k := ?_)
    refine WL.skip (d := 43) (k := ?_)
    refine WL.skip (d := 44) (k := ?_)
    refine WL.skip (d := 45) (k := ?_)
    refine WL.op (d := 46) (.bool true) (k := ?_)
    refine WL.op (d := 47) (.bool true) (k := ?_)
    refine WL.skip (d := 48) (k := ?_)
    refine WL.skip (d := 49) (k := ?_)
    refine WL.skip (d := 50) (k := ?_)
    refine WL.op (d := 51) (.bool true) (k := ?_)
    refine WL.op (d := 52) (.bool true) (k := ?_)
    refine WL.skip (d := 53) (k := ?_)
    refine WL.skip (d := 54) (k := ?_)
    refine WL.skip (d := 55) (k := ?_)
    refine WL.skip (d := 56) (k := ?_)
    refine WL.op (d := 57) (.bool true) (k := ?_)
    refine WL.nil ?_
    refine WX.seqN ?_
    refine WC.condT (k := ?_)
    refine WC.seq ?_
    refine WC.region ?_
    refine WL.op (d := 2) (.bool false) (k := ?_)
    refine WL.nil ?_
    refine WX.seqN ?_
    refine WC.ret ?_
    refine WX.seqR ?_
    refine WX.ret (rs := [.tmp 2]) [.bool false] (.bool false) ⟨(by kernel_rfl), trivial⟩ (k := ?_)
    exact ⟨ret_bool (cok_rng (fun k => by simp only [PCmd.rngs] at k; omega)), K⟩
  have ph16 := of_decide_eq_false h16
  refine WL.rw (t := 27) (v := .bool false) (congrArg Value.bool h16) (k := ?_)
  refine WL.op (d := 28) (.pointer (some ⟨b1, 11, none⟩)) (k := ?_)
  refine WL.load (v := .int .i64 c.p.id) (ld1 (T := 3) (i := 11) hb4) (k := ?_)
  refine WL.op (d := 30) (.bool (decide (c.p.id > 1023))) (k := ?_)
  refine WL.op (d := 31) (.bool (decide (c.p.id > 1023))) (k := ?_)
  refine WL.op (d := 32) (.bool (decide (c.p.id > 1023))) (k := ?_)
  refine bsplit (decide (c.p.id > 1023)) (fun h17 => ?_) (fun h17 => ?_)
  · have ph17 := of_decide_eq_true h17
    refine WL.rw (t := 32) (v := .bool true) (congrArg Value.bool h17) (k := ?_)
    refine WL.skip (d := 33) (k := ?_)
    refine WL.skip (d := 34) (k := ?_)
    refine WL.skip (d := 35) (k := ?_)
    refine WL.op (d := 36) (.bool true) (k := ?_)
    refine WL.op (d := 37) (.bool true) (k := ?_)
    refine WL.skip (d := 38) (k := ?_)
    refine WL.skip (d := 39) (k := ?_)
    refine WL.skip (d := 40) (k := ?_)
    refine WL.op (d := 41) (.bool true) (k := ?_)
    refine WL.op (d := 42) (.bool true) (k := ?_)
    refine WL.skip (d := 43) (k := ?_)
    refine WL.skip (d := 44) (k := ?_)
    refine WL.skip (d := 45) (k := ?_)
    refine WL.op (d := 46) (.bool true) (k := ?_)
    refine WL.op (d := 47) (.bool true) (k := ?_)
    refine WL.skip (d := 48) (k := ?_)
    refine WL.skip (d := 49) (k := ?_)
    refine WL.skip (d := 50) (k := ?_)
    refine WL.op (d := 51) (.bool true) (k := ?_)
    refine WL.op (d := 52) (.bool true) (k := ?_)
    refine WL.skip (d := 53) (k := ?_)
    refine WL.skip (d := 54) (k := ?_)
    refine WL.skip (d := 55) (k := ?_)
    refine WL.skip (d := 56) (k := ?_)
    refine WL.op (d := 57) (.bool true) (k := ?_)
    refine WL.nil ?_
    refine WX.seqN ?_
    refine WC.condT (k := ?_)
    refine WC.seq ?_
    refine WC.region ?_
    refine WL.op (d := 2) (.bool false) (k := ?_)
    refine WL.nil ?_
    refine WX.seqN ?_
    refine WC.ret ?_
    refine WX.seqR ?_
    refine WX.ret (rs := [.tmp 2]) [.bool false] (.bool false) ⟨(by kernel_rfl), trivial⟩ (k := ?_)
    exact ⟨ret_bool (cok_rng (fun k => by simp only [PCmd.rngs] at k; omega)), K⟩
  have ph17 := of_decide_eq_false h17
  refine WL.rw (t := 32) (v := .bool false) (congrArg Value.bool h17) (k := ?_)
  refine WL.op (d := 33) (.pointer (some ⟨b1, 12, none⟩)) (k := ?_)
  refine WL.load (v := .int .i64 c.p.work) (ld1 (T := 2) (i := 12) hb4) (k := ?_)
  refine WL.op (d := 35) (.bool (decide (c.p.work < 0))) (k := ?_)
  refine WL.op (d := 36) (.bool (decide (c.p.work < 0))) (k := ?_)
  refine WL.op (d := 37) (.bool (decide (c.p.work < 0))) (k := ?_)
  refine bsplit (decide (c.p.work < 0)) (fun h18 => ?_) (fun h18 => ?_)
  · have ph18 := of_decide_eq_true h18
    refine WL.rw (t := 37) (v := .bool true) (congrArg Value.bool h18) (k := ?_)
    refine WL.skip (d := 38) (k := ?_)
    refine WL.skip (d := 39) (k := ?_)
    refine WL.skip (d := 40) (k := ?_)
    refine WL.op (d := 41) (.bool true) (k := ?_)
    refine WL.op (d := 42) (.bool true) (k := ?_)
    refine WL.skip (d := 43) (k := ?_)
    refine WL.skip (d := 44) (k := ?_)
    refine WL.skip (d := 45) (k := ?_)
    refine WL.op (d := 46) (.bool true) (k := ?_)
    refine WL.op (d := 47) (.bool true) (k := ?_)
    refine WL.skip (d := 48) (k := ?_)
    refine WL.skip (d := 49) (k := ?_)
    refine WL.skip (d := 50) (k := ?_)
    refine WL.op (d := 51) (.bool true) (k := ?_)
    refine WL.op (d := 52) (.bool true) (k := ?_)
    refine WL.skip (d := 53) (k := ?_)
    refine WL.skip (d := 54) (k := ?_)
    refine WL.skip (d := 55) (k := ?_)
    refine WL.skip (d := 56) (k := ?_)
    refine WL.op (d := 57) (.bool true) (k := ?_)
    refine WL.nil ?_
    refine WX.seqN ?_
    refine WC.condT (k := ?_)
    refine WC.seq ?_
    refine WC.region ?_
    refine WL.op (d := 2) (.bool false) (k := ?_)
    refine WL.nil ?_
    refine WX.seqN ?_
    refine WC.ret ?_
    refine WX.seqR ?_
    refine WX.ret (rs := [.tmp 2]) [.bool false] (.bool false) ⟨(by kernel_rfl), trivial⟩ (k := ?_)
    exact ⟨ret_bool (cok_rng (fun k => by simp only [PCmd.rngs] at k; omega)), K⟩
  have ph18 := of_decide_eq_false h18
  refine WL.rw (t := 37) (v := .bool false) (congrArg Value.bool h18) (k := ?_)
  refine WL.op (d := 38) (.pointer (some ⟨b1, 12, none⟩)) (k := ?_)
  refine WL.load (v := .int .i64 c.p.work) (ld1 (T := 2) (i := 12) hb4) (k := ?_)
  refine WL.op (d := 40) (.bool (decide (c.p.work > 2147483648))) (k := ?_)
  refine WL.op (d := 41) (.bool (decide (c.p.work > 2147483648))) (k := ?_)
  refine WL.op (d := 42) (.bool (decide (c.p.work > 2147483648))) (k := ?_)
  refine bsplit (decide (c.p.work > 2147483648)) (fun h19 => ?_) (fun h19 => ?_)
  · have ph19 := of_decide_eq_true h19
    refine WL.rw (t := 42) (v := .bool true) (congrArg Value.bool h19) (k := ?_)
    refine WL.skip (d := 43) (k := ?_)
    refine WL.skip (d := 44) (k := ?_)
    refine WL.skip (d := 45) (k := ?_)
    refine WL.op (d := 46) (.bool true) (k := ?_)
    refine WL.op (d := 47) (.bool true) (k := ?_)
    refine WL.skip (d := 48) (k := ?_)
    refine WL.skip (d := 49) (k := ?_)
    refine WL.skip (d := 50) (k := ?_)
    refine WL.op (d := 51) (.bool true) (k := ?_)
    refine WL.op (d := 52) (.bool true) (k := ?_)
    refine WL.skip (d := 53) (k := ?_)
    refine WL.skip (d := 54) (k := ?_)
    refine WL.skip (d := 55) (k := ?_)
    refine WL.skip (d := 56) (k := ?_)
    refine WL.op (d := 57) (.bool true) (k := ?_)
    refine WL.nil ?_
    refine WX.seqN ?_
    refine WC.condT (k := ?_)
    refine WC.seq ?_
    refine WC.region ?_
    refine WL.op (d := 2) (.bool false) (k := ?_)
    refine WL.nil ?_
    refine WX.seqN ?_
    refine WC.ret ?_
    refine WX.seqR ?_
    refine WX.ret (rs := [.tmp 2]) [.bool false] (.bool false) ⟨(by kernel_rfl), trivial⟩ (k := ?_)
    exact ⟨ret_bool (cok_rng (fun k => by simp only [PCmd.rngs] at k; omega)), K⟩
  have ph19 := of_decide_eq_false h19
  refine WL.rw (t := 42) (v := .bool false) (congrArg Value.bool h19) (k := ?_)
  refine WL.op (d := 43) (.pointer (some ⟨b1, 13, none⟩)) (k := ?_)
  refine WL.load (v := .int .i64 c.p.n) (ld1 (T := 3) (i := 13) hb4) (k := ?_)
  refine WL.op (d := 45) (.bool (decide (c.p.n < 0))) (k := ?_)
  refine WL.op (d := 46) (.bool (decide (c.p.n < 0))) (k := ?_)
  refine WL.op (d := 47) (.bool (decide (c.p.n < 0))) (k := ?_)
  refine bsplit (decide (c.p.n < 0)) (fun h20 => ?_) (fun h20 => ?_)
  · have ph20 := of_decide_eq_true h20
    refine WL.rw (t := 47) (v := .bool true) (congrArg Value.bool h20) (k := ?_)
    refine WL.skip (d := 48) (k := ?_)
    refine WL.skip (d := 49) (k := ?_)
    refine WL.skip (d := 50) (k := ?_)
    refine WL.op (d := 51) (.bool true) (k := ?_)
    refine WL.op (d := 52) (.bool true) (k := ?_)
    refine WL.skip (d := 53) (k := ?_)
    refine WL.skip (d := 54) (k := ?_)
    refine WL.skip (d := 55) (k := ?_)
    refine WL.skip (d := 56) (k := ?_)
    refine WL.op (d := 57) (.bool true) (k := ?_)
    refine WL.nil ?_
    refine WX.seqN ?_
    refine WC.condT (k := ?_)
    refine WC.seq ?_
    refine WC.region ?_
    refine WL.op (d := 2) (.bool false) (k := ?_)
    refine WL.nil ?_
    refine WX.seqN ?_
    refine WC.ret ?_
    refine WX.seqR ?_
    refine WX.ret (rs := [.tmp 2]) [.bool false] (.bool false) ⟨(by kernel_rfl), trivial⟩ (k := ?_)
    exact ⟨ret_bool (cok_rng (fun k => by simp only [PCmd.rngs] at k; omega)), K⟩
  have ph20 := of_decide_eq_false h20
  refine WL.rw (t := 47) (v := .bool false) (congrArg Value.bool h20) (k := ?_)
  refine WL.op (d := 48) (.pointer (some ⟨b1, 13, none⟩)) (k := ?_)
  refine WL.load (v := .int .i64 c.p.n) (ld1 (T := 3) (i := 13) hb4) (k := ?_)
  refine WL.op (d := 50) (.bool (decide (c.p.n > 1048576))) (k := ?_)
  refine WL.op (d := 51) (.bool (decide (c.p.n > 1048576))) (k := ?_)
  refine WL.op (d := 52) (.bool (decide (c.p.n > 1048576))) (k := ?_)
  refine bsplit (decide (c.p.n > 1048576)) (fun h21 => ?_) (fun h21 => ?_)
  · have ph21 := of_decide_eq_true h21
    refine WL.rw (t := 52) (v := .bool true) (congrArg Value.bool h21) (k := ?_)
    refine WL.skip (d := 53) (k := ?_)
    refine WL.skip (d := 54) (k := ?_)
    refine WL.skip (d := 55) (k := ?_)
    refine WL.skip (d := 56) (k := ?_)
    refine WL.op (d := 57) (.bool true) (k := ?_)
    refine WL.nil ?_
    refine WX.seqN ?_
    refine WC.condT (k := ?_)
    refine WC.seq ?_
    refine WC.region ?_
    refine WL.op (d := 2) (.bool false) (k := ?_)
    refine WL.nil ?_
    refine WX.seqN ?_
    refine WC.ret ?_
    refine WX.seqR ?_
    refine WX.ret (rs := [.tmp 2]) [.bool false] (.bool false) ⟨(by kernel_rfl), trivial⟩ (k := ?_)
    exact ⟨ret_bool (cok_rng (fun k => by simp only [PCmd.rngs] at k; omega)), K⟩
  have ph21 := of_decide_eq_false h21
  refine WL.rw (t := 52) (v := .bool false) (congrArg Value.bool h21) (k := ?_)
  refine WL.op (d := 53) (.pointer (some ⟨b1, 14, none⟩)) (k := ?_)
  refine WL.load (v := .slice c.A c.p.fs.length c.cap) (ld1 (T := 37) (i := 14) hb4) (k := ?_)
  refine WL.op (d := 55) (.int .i64 (c.p.fs.length : Int)) (k := ?_)
  refine WL.op (d := 56) (.bool (decide ((c.p.fs.length : Int) > 64))) (k := ?_)
  refine WL.op (d := 57) (.bool (decide ((c.p.fs.length : Int) > 64))) (k := ?_)
  refine WL.nil ?_
  refine WX.seqN ?_
  refine WC.cond (b := decide ((c.p.fs.length : Int) > 64)) (ht := fun h22 => ?_) (hf := fun h22 => ?_)
  · have ph22 := of_decide_eq_true h22
    refine WC.seq ?_
    refine WC.region ?_
    refine WL.op (d := 2) (.bool false) (k := ?_)
    refine WL.nil ?_
    refine WX.seqN ?_
    refine WC.ret ?_
    refine WX.seqR ?_
    refine WX.ret (rs := [.tmp 2]) [.bool false] (.bool false) ⟨(by kernel_rfl), trivial⟩ (k := ?_)
    exact ⟨ret_bool (cok_rng (fun k => by simp only [PCmd.rngs] at k; omega)), K⟩
  · have ph22 := of_decide_eq_false h22
    refine WC.skip ?_
    refine WX.seqN ?_
    refine WC.seq ?_
    refine WC.seq ?_
    refine WC.region ?_
    refine WL.op (d := 4) (.int .i64 0) (k := ?_)
    refine WL.nil ?_
    refine WX.seqN ?_
    refine WC.block ?_
    refine WC.loop (ι := Int) (fun (i : Int) => [(0, GCmd.val c), (1, .pointer (some ⟨b1, 0, none⟩)), (6, GCmd.val c), (7, GCmd.val c), (8, GCmd.val (GCmd.bare c)), (9, .bool (decide (c.p = (GCmd.bare c).p))), (3, .bool (decide (c.p = (GCmd.bare c).p))), (10, .bool (decide (c.p = (GCmd.bare c).p))), (11, .bool (!(decide (c.p = (GCmd.bare c).p)))), (12, .bool false), (13, .pointer (some ⟨b1, 0, none⟩)), (14, .int .i64 c.p.kind), (15, .bool (decide (c.p.kind < 1))), (16, .bool (decide (c.p.kind < 1))), (17, .bool false), (18, .pointer (some ⟨b1, 0, none⟩)), (19, .int .i64 c.p.kind), (20, .bool (decide (c.p.kind > 9))), (21, .bool (decide (c.p.kind > 9))), (22, .bool false), (23, .pointer (some ⟨b1, 11, none⟩)), (24, .int .i64 c.p.id), (25, .bool (decide (c.p.id < 0))), (26, .bool (decide (c.p.id < 0))), (27, .bool false), (28, .pointer (some ⟨b1, 11, none⟩)), (29, .int .i64 c.p.id), (30, .bool (decide (c.p.id > 1023))), (31, .bool (decide (c.p.id > 1023))), (32, .bool false), (33, .pointer (some ⟨b1, 12, none⟩)), (34, .int .i64 c.p.work), (35, .bool (decide (c.p.work < 0))), (36, .bool (decide (c.p.work < 0))), (37, .bool false), (38, .pointer (some ⟨b1, 12, none⟩)), (39, .int .i64 c.p.work), (40, .bool (decide (c.p.work > 2147483648))), (41, .bool (decide (c.p.work > 2147483648))), (42, .bool false), (43, .pointer (some ⟨b1, 13, none⟩)), (44, .int .i64 c.p.n), (45, .bool (decide (c.p.n < 0))), (46, .bool (decide (c.p.n < 0))), (47, .bool false), (48, .pointer (some ⟨b1, 13, none⟩)), (49, .int .i64 c.p.n), (50, .bool (decide (c.p.n > 1048576))), (51, .bool (decide (c.p.n > 1048576))), (52, .bool false), (53, .pointer (some ⟨b1, 14, none⟩)), (54, .slice c.A c.p.fs.length c.cap), (55, .int .i64 (c.p.fs.length : Int)), (56, .bool (decide ((c.p.fs.length : Int) > 64))), (57, .bool (decide ((c.p.fs.length : Int) > 64))), (4, .int .i64 i)]) (fun (i : Int) (w_ : World) => (Keeps (fun _ => False) w w_) ∧ (w_.heap[b1]? = some (.cells (Value.cells (GCmd.val c)) 39 (0, 0))) ∧ (0 ≤ i) ∧ (i ≤ c.p.fs.length) ∧ (upF c.p.fs i)) (fun (i : Int) => (c.p.fs.length - i).toNat) 0 ⟨(by kernel_rfl), (by kernel_rfl), (by kernel_rfl), (by kernel_rfl), (by kernel_rfl), (by kernel_rfl), (by kernel_rfl), (by kernel_rfl), (by kernel_rfl), (by kernel_rfl), (by kernel_rfl), (by kernel_rfl), (by kernel_rfl), (by kernel_rfl), (by kernel_rfl), (by kernel_rfl), (by kernel_rfl), (by kernel_rfl), (by kernel_rfl), (by kernel_rfl), (by kernel_rfl), (by kernel_rfl), (by kernel_rfl), (by kernel_rfl), (by kernel_rfl), (by kernel_rfl), (by kernel_rfl), (by kernel_rfl), (by kernel_rfl), (by kernel_rfl), (by kernel_rfl), (by kernel_rfl), (by kernel_rfl), (by kernel_rfl), (by kernel_rfl), (by kernel_rfl), (by kernel_rfl), (by kernel_rfl), (by kernel_rfl), (by kernel_rfl), (by kernel_rfl), (by kernel_rfl), (by kernel_rfl), (by kernel_rfl), (by kernel_rfl), (by kernel_rfl), (by kernel_rfl), (by kernel_rfl), (by kernel_rfl), (by kernel_rfl), (by kernel_rfl), (by kernel_rfl), (by kernel_rfl), (by kernel_rfl), (by kernel_rfl), (by kernel_rfl), trivial⟩ ⟨K, hb4, Int.le_refl 0, (by omega), upF_zero _⟩ ?_
    rintro i w23 ⟨K, hb24, i0, i1, iu⟩
    refine WC.seq ?_
    refine WC.seq ?_
    refine WC.region ?_
    refine WL.op (d := 58) (.int .i64 i) (k := ?_)
    refine WL.op (d := 59) (.pointer (some ⟨b1, 14, none⟩)) (k := ?_)
    refine WL.load (v := .slice c.A c.p.fs.length c.cap) (ld1 (T := 37) (i := 14) hb24) (k := ?_)
    refine WL.op (d := 61) (.int .i64 (c.p.fs.length : Int)) (k := ?_)
    refine WL.op (d := 62) (.bool (decide (i < (c.p.fs.length : Int)))) (k := ?_)
    refine WL.nil ?_
    refine WX.seqN ?_
    refine WC.cond (b := decide (i < (c.p.fs.length : Int))) (ht := fun h25 => ?_) (hf := fun h25 => ?_)
    · have ph25 := of_decide_eq_true h25
      refine WC.skip ?_
      refine WX.seqN ?_
      refine WC.seq ?_
      refine WC.block ?_
      refine WC.seq ?_
      refine WC.region ?_
      refine WL.op (d := 65) (.pointer (some ⟨b1, 14, none⟩)) (k := ?_)
      refine WL.load (v := .slice c.A c.p.fs.length c.cap) (ld1 (T := 37) (i := 14) hb24) (k := ?_)
      refine WL.op (d := 67) (.int .i64 i) (k := ?_)
      obtain ⟨b26, o27, r28, hr29, hA30, he31⟩ := SlAt.at hc (i := i) (by omega) (by omega)
      refine WL.rw (t := 66) (v := .slice (some ⟨b26, o27, none⟩) c.p.fs.length c.cap) (congrArg (fun a => Value.slice a c.p.fs.length c.cap) hA30) (k := ?_)
      refine WL.idx (T := 37) (E := 72) (m := 2) (b := b26) (o := o27) (len := c.p.fs.length) (cap := c.cap) (i := i) (kk := .i64) (d := 68) (by omega) (by omega) (k := ?_)
      refine WL.rw (t := 66) (v := .slice c.A c.p.fs.length c.cap) (congrArg (fun a => Value.slice a c.p.fs.length c.cap) (Eq.symm hA30)) (k := ?_)
      refine WL.load (v := GFate.val r28) ((he31.adds K).ldW (T := 72)) (k := ?_)
      refine WL.new (d := 5) (T := 72) #[.int .i64 0, .int .i64 0] (k := fun b32 w33 g34 hb35 k36 => ?_)
      have z37 := Nat.le_trans K.size g34
      have n38 : b1 ≠ b32 := Nat.ne_of_lt (Nat.lt_of_lt_of_le (lt_of_heap hb24) g34)
      replace hb24 := k36.heap hb24 id
      replace K := K.trans (k36.any _)
      refine WL.store (v := GFate.val r28) (i := 0) (cs' := (Value.cells (GFate.val r28))) hb35 (k := fun w39 hb40 k41 => ?_)
      replace hb24 := k41.heap hb24 n38
      replace K := K.trans' k41 (fun i hi e => absurd (e ▸ hi) (Nat.not_lt.2 z37))
      clear hb35
      refine WL.nil ?_
      refine WX.seqN ?_
      refine WC.seq ?_
      refine WC.region ?_
      refine WL.op (d := 70) (.pointer (some ⟨b32, 0, none⟩)) (k := ?_)
      refine WL.load (v := .int .i64 r28.kind) (ld1 (T := 3) (i := 0) hb40) (k := ?_)
      refine WL.op (d := 72) (.bool (decide (r28.kind < 0))) (k := ?_)
      refine WL.op (d := 73) (.bool (decide (r28.kind < 0))) (k := ?_)
      refine bsplit (decide (r28.kind < 0)) (fun h42 => ?_) (fun h42 => ?_)
      · have ph42 := of_decide_eq_true h42
        refine WL.rw (t := 73) (v := .bool true) (congrArg Value.bool h42) (k := ?_)
        refine WL.skip (d := 74) (k := ?_)
        refine WL.skip (d := 75) (k := ?_)
        refine WL.skip (d := 76) (k := ?_)
        refine WL.op (d := 77) (.bool true) (k := ?_)
        refine WL.op (d := 78) (.bool true) (k := ?_)
        refine WL.skip (d := 79) (k := ?_)
        refine WL.skip (d := 80) (k := ?_)
        refine WL.skip (d := 81) (k := ?_)
        refine WL.op (d := 82) (.bool true) (k := ?_)
        refine WL.op (d := 83) (.bool true) (k := ?_)
        refine WL.skip (d := 84) (k := ?_)
        refine WL.skip (d := 85) (k := ?_)
        refine WL.skip (d := 86) (k := ?_)
        refine WL.op (d := 87) (.bool true) (k := ?_)
        refine WL.nil ?_
        refine WX.seqN ?_
        refine WC.condT (k := ?_)
        refine WC.seq ?_
        refine WC.region ?_
        refine WL.op (d := 2) (.bool false) (k := ?_)
        refine WL.nil ?_
        refine WX.seqN ?_
        refine WC.ret ?_
        refine WX.blockR ?_
        refine WX.seqR ?_
        refine WX.seqR ?_
        refine WX.blockR ?_
        refine WX.seqR ?_
        refine WX.ret (rs := [.tmp 2]) [.bool false] (.bool false) ⟨(by kernel_rfl), trivial⟩ (k := ?_)
        exact ⟨ret_bool (cok_fs1 hr29 (fun k => by simp only [GFate.ok] at k; omega)), K⟩
      have ph42 := of_decide_eq_false h42
      refine WL.rw (t := 73) (v := .bool false) (congrArg Value.bool h42) (k := ?_)
      refine WL.op (d := 74) (.pointer (some ⟨b32, 0, none⟩)) (k := ?_)
      refine WL.load (v := .int .i64 r28.kind) (ld1 (T := 3) (i := 0) hb40) (k := ?_)
      refine WL.op (d := 76) (.bool (decide (r28.kind > 2))) (k := ?_)
      refine WL.op (d := 77) (.bool (decide (r28.kind > 2))) (k := ?_)
      refine WL.op (d := 78) (.bool (decide (r28.kind > 2))) (k := ?_)
      refine bsplit (decide (r28.kind > 2)) (fun h43 => ?_) (fun h43 => ?_)
      · have ph43 := of_decide_eq_true h43
        refine WL.rw (t := 78) (v := .bool true) (congrArg Value.bool h43) (k := ?_)
        refine WL.skip (d := 79) (k := ?_)
        refine WL.skip (d := 80) (k := ?_)
        refine WL.skip (d := 81) (k := ?_)
        refine WL.op (d := 82) (.bool true) (k := ?_)
        refine WL.op (d := 83) (.bool true) (k := ?_)
        refine WL.skip (d := 84) (k := ?_)
        refine WL.skip (d := 85) (k := ?_)
        refine WL.skip (d := 86) (k := ?_)
        refine WL.op (d := 87) (.bool true) (k := ?_)
        refine WL.nil ?_
        refine WX.seqN ?_
        refine WC.condT (k := ?_)
        refine WC.seq ?_
        refine WC.region ?_
        refine WL.op (d := 2) (.bool false) (k := ?_)
        refine WL.nil ?_
        refine WX.seqN ?_
        refine WC.ret ?_
        refine WX.blockR ?_
        refine WX.seqR ?_
        refine WX.seqR ?_
        refine WX.blockR ?_
        refine WX.seqR ?_
        refine WX.ret (rs := [.tmp 2]) [.bool false] (.bool false) ⟨(by kernel_rfl), trivial⟩ (k := ?_)
        exact ⟨ret_bool (cok_fs1 hr29 (fun k => by simp only [GFate.ok] at k; omega)), K⟩
      have ph43 := of_decide_eq_false h43
      refine WL.rw (t := 78) (v := .bool false) (congrArg Value.bool h43) (k := ?_)
      refine WL.op (d := 79) (.pointer (some ⟨b32, 1, none⟩)) (k := ?_)
      refine WL.load (v := .int .i64 r28.at_) (ld1 (T := 3) (i := 1) hb40) (k := ?_)
      refine WL.op (d := 81) (.bool (decide (r28.at_ < 0))) (k := ?_)
      refine WL.op (d := 82) (.bool (decide (r28.at_ < 0))) (k := ?_)
      refine WL.op (d := 83) (.bool (decide (r28.at_ < 0))) (k := ?_)
      refine bsplit (decide (r28.at_ < 0)) (fun h44 => ?_) (fun h44 => ?_)
      · have ph44 := of_decide_eq_true h44
        refine WL.rw (t := 83) (v := .bool true) (congrArg Value.bool h44) (k := ?_)
        refine WL.skip (d := 84) (k := ?_)
        refine WL.skip (d := 85) (k := ?_)
        refine WL.skip (d := 86) (k := ?_)
        refine WL.op (d := 87) (.bool true) (k := ?_)
        refine WL.nil ?_
        refine WX.seqN ?_
        refine WC.condT (k := ?_)
        refine WC.seq ?_
        refine WC.region ?_
        refine WL.op (d := 2) (.bool false) (k := ?_)
        refine WL.nil ?_
        refine WX.seqN ?_
        refine WC.ret ?_
        refine WX.blockR ?_
        refine WX.seqR ?_
        refine WX.seqR ?_
        refine WX.blockR ?_
        refine WX.seqR ?_
        refine WX.ret (rs := [.tmp 2]) [.bool false] (.bool false) ⟨(by kernel_rfl), trivial⟩ (k := ?_)
        exact ⟨ret_bool (cok_fs1 hr29 (fun k => by simp only [GFate.ok] at k; omega)), K⟩
      have ph44 := of_decide_eq_false h44
      refine WL.rw (t := 83) (v := .bool false) (congrArg Value.bool h44) (k := ?_)
      refine WL.op (d := 84) (.pointer (some ⟨b32, 1, none⟩)) (k := ?_)
      refine WL.load (v := .int .i64 r28.at_) (ld1 (T := 3) (i := 1) hb40) (k := ?_)
      refine WL.op (d := 86) (.bool (decide (r28.at_ > 64))) (k := ?_)
      refine WL.op (d := 87) (.bool (decide (r28.at_ > 64))) (k := ?_)
      refine WL.nil ?_
      refine WX.seqN ?_
      refine WC.cond (b := decide (r28.at_ > 64)) (ht := fun h45 => ?_) (hf := fun h45 => ?_)
      · have ph45 := of_decide_eq_true h45
        refine WC.seq ?_
        refine WC.region ?_
        refine WL.op (d := 2) (.bool false) (k := ?_)
        refine WL.nil ?_
        refine WX.seqN ?_
        refine WC.ret ?_
        refine WX.blockR ?_
        refine WX.seqR ?_
        refine WX.seqR ?_
        refine WX.blockR ?_
        refine WX.seqR ?_
        refine WX.ret (rs := [.tmp 2]) [.bool false] (.bool false) ⟨(by kernel_rfl), trivial⟩ (k := ?_)
        exact ⟨ret_bool (cok_fs1 hr29 (fun k => by simp only [GFate.ok] at k; omega)), K⟩
      · have ph45 := of_decide_eq_false h45
        refine WC.skip ?_
        refine WX.blockN ?_
        refine WX.seqN ?_
        refine WC.region ?_
        refine WL.op (d := 63) (.int .i64 i) (k := ?_)
        refine WL.opE (d := 64) (.int .i64 (IntKind.i64.wrap (i + 1))) (v := .int .i64 (i + 1)) (congrArg (Value.int .i64) (IntWalk.i64_in _ (by omega))) (k := ?_)
        refine WL.op (d := 4) (.int .i64 (i + 1)) (k := ?_)
        refine WL.nil ?_
        refine WX.round (i + 1) (by show (c.p.fs.length - (i + 1)).toNat < (c.p.fs.length - i).toNat; omega) ⟨(by kernel_rfl), (by kernel_rfl), (by kernel_rfl), (by kernel_rfl), (by kernel_rfl), (by kernel_rfl), (by kernel_rfl), (by kernel_rfl), (by kernel_rfl), (by kernel_rfl), (by kernel_rfl), (by kernel_rfl), (by kernel_rfl), (by kernel_rfl), (by kernel_rfl), (by kernel_rfl), (by kernel_rfl), (by kernel_rfl), (by kernel_rfl), (by kernel_rfl), (by kernel_rfl), (by kernel_rfl), (by kernel_rfl), (by kernel_rfl), (by kernel_rfl), (by kernel_rfl), (by kernel_rfl), (by kernel_rfl), (by kernel_rfl), (by kernel_rfl), (by kernel_rfl), (by kernel_rfl), (by kernel_rfl), (by kernel_rfl), (by kernel_rfl), (by kernel_rfl), (by kernel_rfl), (by kernel_rfl), (by kernel_rfl), (by kernel_rfl), (by kernel_rfl), (by kernel_rfl), (by kernel_rfl), (by kernel_rfl), (by kernel_rfl), (by kernel_rfl), (by kernel_rfl), (by kernel_rfl), (by kernel_rfl), (by kernel_rfl), (by kernel_rfl), (by kernel_rfl), (by kernel_rfl), (by kernel_rfl), (by kernel_rfl), (by kernel_rfl), trivial⟩ ⟨K, hb24, (by omega), (by omega), (upF_succ i0 iu hr29 (by simp only [GFate.ok]; omega))⟩
    · have ph25 := of_decide_eq_false h25
      refine WC.exit ?_
      refine WX.seqE ?_
      refine WX.seqE ?_
      refine WX.blockE ?_
      refine WX.seqN ?_
      refine WC.seq ?_
      refine WC.seq ?_
      refine WC.region ?_
      refine WL.op (d := 88) (.pointer (some ⟨b1, 0, none⟩)) (k := ?_)
      refine WL.load (v := .int .i64 c.p.kind) (ld1 (T := 3) (i := 0) hb24) (k := ?_)
      refine WL.op (d := 90) (.bool (c.p.kind == 1)) (k := ?_)
      refine WL.nil ?_
      refine WX.seqN ?_
      refine WC.cond (b := c.p.kind == 1) (ht := fun h46 => ?_) (hf := fun h46 => ?_)
      · have ph46 := eq_of_beq h46
        refine WC.seq ?_
        refine WC.region ?_
        refine WL.op (d := 91) (.pointer (some ⟨b1, 1, none⟩)) (k := ?_)
        refine WL.load (v := GOp.val c.p.op) (ldN (T := 36) (i := 1) (m := 10) (l := (Value.cells (GOp.val c.p.op)).toList) hb24) (k := ?_)
        refine WL.callG (d := 93) (f := 52) (args := #[GOp.val c.p.op]) (u13Check_c c.p.op w23) (k := fun e_ w47 h_ => ⟨.bool (decide (GOp.ok c.p.op)), h_.1, ?_⟩)
        have k48 := h_.2; clear h_
        replace hb24 := k48.heap hb24 id
        replace K := K.trans (k48.any _)
        refine WL.op (d := 2) (.bool (decide (GOp.ok c.p.op))) (k := ?_)
        refine WL.nil ?_
        refine WX.seqN ?_
        refine WC.ret ?_
        refine WX.seqR ?_
        refine WX.ret (rs := [.tmp 2]) [.bool (decide (GOp.ok c.p.op))] (.bool (decide (GOp.ok c.p.op))) ⟨(by kernel_rfl), trivial⟩ (k := ?_)
        exact ⟨ret_bool (cok_op ph13 (by omega)), K⟩
      · have ph46 := ne_of_beq_false h46
        refine WC.skip ?_
        refine WX.seqN ?_
        refine WC.seq ?_
        refine WC.region ?_
        refine WL.op (d := 2) (.bool true) (k := ?_)
        refine WL.nil ?_
        refine WX.seqN ?_
        refine WC.ret ?_
        refine WX.ret (rs := [.tmp 2]) [.bool true] (.bool true) ⟨(by kernel_rfl), trivial⟩ (k := ?_)
        exact ⟨ret_bool (cok_end2 ph13 (by simp only [PCmd.rngs]; omega) (by omega) (upF_end (i := i) (by omega) iu)), K⟩
end Go.Proofs.YtoeinhlmkpgjhaaGreatDoor
namespace Go.Proofs.YtoeinhlmkpgjhaaGreatDoor
open Go.RowKit
set_option linter.unusedVariables false
set_option linter.unusedSimpArgs false
abbrev kServe : List UInt8 := [115, 101, 114, 118, 101]
abbrev kAdmit : List UInt8 := [97, 100, 109, 105, 116]
abbrev kRemove : List UInt8 := [114, 101, 109, 111, 118, 101]
abbrev kResize : List UInt8 := [114, 101, 115, 105, 122, 101]
abbrev kMode : List UInt8 := [109, 111, 100, 101]
abbrev kCrash : List UInt8 := [99, 114, 97, 115, 104]
abbrev kTorn : List UInt8 := [116, 111, 114, 110]
abbrev kKept : List UInt8 := [107, 101, 112, 116]
abbrev kLost : List UInt8 := [108, 111, 115, 116]
abbrev kRelease : List UInt8 := [114, 101, 108, 101, 97, 115, 101]
abbrev kAsk : List UInt8 := [97, 115, 107]
abbrev kTick : List UInt8 := [116, 105, 99, 107]
abbrev kQuery : List UInt8 := [113, 117, 101, 114, 121]
abbrev kSnapshot : List UInt8 := [115, 110, 97, 112, 115, 104, 111, 116]
abbrev kFail : List UInt8 := [102, 97, 105, 108]
abbrev kStart : List UInt8 := [115, 116, 97, 114, 116]
theorem itoa_le {n : Int} (h0 : -9223372036854775808 ≤ n) (h1 : n ≤ 9223372036854775807) : (Lib.itoa n).length ≤ 21 := Lib.itoa_length_le n h0 h1
theorem joinL_len {c : UInt8} {M : Nat} : ∀ {xs : List (List UInt8)}, (∀ x ∈ xs, x.length ≤ M) → (joinL c xs).length ≤ xs.length * (M + 1) := by
  unfold joinL Lib.join
  intro xs
  induction xs with
  | nil => intro _; simp
  | cons x xs ih =>
    intro h
    have hx := h x (List.mem_cons_self ..)
    have hi := ih fun y hy => h y (List.mem_cons_of_mem _ hy)
    cases xs with
    | nil => simp [List.intercalate] at hi ⊢; omega
    | cons y ys =>
      rw [show [c].intercalate (x :: y :: ys) = x ++ [c] ++ [c].intercalate (y :: ys) from by simp [List.intercalate, List.intersperse]]
      simp only [List.length_append, List.length_cons, List.length_nil] at hi ⊢
      rw [Nat.succ_mul]
      omega
noncomputable def taskW (t : GTask) : List UInt8 := if t.ok then (Lib.itoa t.id ++ [58]) ++ joinL 47 [Lib.itoa t.c, Lib.itoa t.d, Lib.itoa t.t, Lib.itoa t.m] else []
theorem taskJ_le {t : GTask} (h : t.ok) : (joinL 47 [Lib.itoa t.c, Lib.itoa t.d, Lib.itoa t.t, Lib.itoa t.m]).length ≤ 88 := by
  obtain ⟨h1, h2, h3, h4, h5, h6, h7, h8⟩ := h
  refine joinL_len (M := 21) fun x hx => ?_
  simp only [List.mem_cons, List.not_mem_nil, or_false] at hx
  rcases hx with rfl | rfl | rfl | rfl <;> exact itoa_le (by omega) (by omega)
theorem taskW_le (t : GTask) : (taskW t).length ≤ 120 := by
  unfold taskW
  split
  · next h =>
    have := taskJ_le h
    have h2 := itoa_le (n := t.id) (by have := h.1; omega) (by have := h.2.1; omega)
    simp only [List.length_append, List.length_cons, List.length_nil]; omega
  · simp
noncomputable def opW (o : GOp) : List (List UInt8) :=
  if o.kind = 1 then [if o.sv then kServe else kAdmit, taskW o.task]
  else if o.kind = 2 then [kRemove, Lib.itoa o.id]
  else if o.kind = 3 then [kResize, Lib.itoa o.id, Lib.itoa o.c]
  else [kMode, Lib.itoa o.m]
noncomputable def fateW (f : GFate) : List (List UInt8) := if f.kind = 2 then [kTorn, Lib.itoa f.at_] else if f.kind = 1 then [kKept] else [kLost]
def fateP (f : GFate) : Prop := f.kind = 2 ∨ f.at_ = 0
instance (f : GFate) : Decidable (fateP f) := by unfold fateP; infer_instance
noncomputable def fatesW (fs : List GFate) : List (List UInt8) := [kCrash] ++ fs.flatMap fateW
noncomputable def fatesU (fs : List GFate) (i : Int) : List (List UInt8) := [kCrash] ++ (fs.take i.toNat).flatMap fateW
def fatesOk (fs : List GFate) : Bool := fs.all fun f => decide (fateP f)
noncomputable def cmdW (p : PCmd) : List (List UInt8) :=
  if p.kind = 1 then opW p.op
  else if p.kind = 2 then [kRelease, Lib.itoa p.id, Lib.itoa p.work]
  else if p.kind = 3 then [kAsk, Lib.itoa p.id, Lib.itoa p.work]
  else if p.kind = 4 then [kTick, Lib.itoa p.n]
  else if p.kind = 5 then [kQuery, Lib.itoa p.id]
  else if p.kind = 6 then [kSnapshot]
  else if p.kind = 7 then [kFail, Lib.itoa p.n]
  else if p.kind = 8 then fatesW p.fs
  else if p.kind = 9 then [kStart] else []
noncomputable def lineB (p : PCmd) : Bool := cokB p && (decide (p.kind ≠ 8) || fatesOk p.fs)
noncomputable def lineW (p : PCmd) : List UInt8 := if lineB p then joinL 32 (cmdW p) else []
theorem fatesU_zero (fs : List GFate) : fatesU fs 0 = [kCrash] := by simp [fatesU]
theorem fatesU_succ {fs : List GFate} {i : Int} {f : GFate} (h0 : 0 ≤ i) (h : fs[i.toNat]? = some f) : fatesU fs (i + 1) = fatesU fs i ++ fateW f := by
  unfold fatesU
  rw [show (i + 1).toNat = i.toNat + 1 by omega, List.take_add_one, h]
  simp
theorem fatesU_s2 {fs : List GFate} {i : Int} {f : GFate} (h0 : 0 ≤ i) (h : fs[i.toNat]? = some f) (k : f.kind = 2) : fatesU fs i ++ [kTorn, Lib.itoa f.at_] = fatesU fs (i + 1) := by
  rw [fatesU_succ h0 h, fateW, if_pos k]
theorem fatesU_s1 {fs : List GFate} {i : Int} {f : GFate} (h0 : 0 ≤ i) (h : fs[i.toNat]? = some f) (k2 : ¬ f.kind = 2) (k : f.kind = 1) : fatesU fs i ++ [kKept] = fatesU fs (i + 1) := by
  rw [fatesU_succ h0 h, fateW, if_neg k2, if_pos k]
theorem fatesU_s0 {fs : List GFate} {i : Int} {f : GFate} (h0 : 0 ≤ i) (h : fs[i.toNat]? = some f) (k2 : ¬ f.kind = 2) (k : ¬ f.kind = 1) : fatesU fs i ++ [kLost] = fatesU fs (i + 1) := by
  rw [fatesU_succ h0 h, fateW, if_neg k2, if_neg k]
theorem fatesU_end {fs : List GFate} {i : Int} (h : (fs.length : Int) ≤ i) : fatesU fs i = fatesW fs := by
  unfold fatesU fatesW
  rw [List.take_of_length_le (by omega)]
theorem fatesU_len (fs : List GFate) (i : Int) : (fatesU fs i).length ≤ 2 * fs.length + 1 := by
  have key : ∀ l : List GFate, (l.flatMap fateW).length ≤ 2 * l.length := fun l => by
    induction l with
    | nil => simp
    | cons f l ih =>
      have h1 : (fateW f).length ≤ 2 := by
        unfold fateW
        split
        · simp
        · split <;> simp
      simp only [List.flatMap_cons, List.length_append, List.length_cons]; omega
  have h := key (fs.take i.toNat)
  unfold fatesU
  simp only [List.length_append, List.length_cons, List.length_nil]
  have : (fs.take i.toNat).length ≤ fs.length := by simp; omega
  omega
def okU (fs : List GFate) (i : Int) : Prop := ∀ f ∈ fs.take i.toNat, fateP f
theorem okU_zero (fs : List GFate) : okU fs 0 := by unfold okU; simp
theorem okU_succ {fs : List GFate} {i : Int} {f : GFate} (h0 : 0 ≤ i) (h : fs[i.toNat]? = some f) (hu : okU fs i) (hf : fateP f) : okU fs (i + 1) := by
  unfold okU at hu ⊢
  rw [show (i + 1).toNat = i.toNat + 1 by omega, List.take_add_one, h]
  intro g hg
  rcases List.mem_append.1 hg with hg | hg
  · exact hu g hg
  · simp at hg; rw [hg]; exact hf
theorem okU_end {fs : List GFate} {i : Int} (h : (fs.length : Int) ≤ i) (hu : okU fs i) : fatesOk fs = true := by
  unfold okU at hu
  rw [List.take_of_length_le (by omega)] at hu
  unfold fatesOk
  exact List.all_eq_true.2 fun f hf => decide_eq_true (hu f hf)
theorem okU_bad {fs : List GFate} {i : Int} {f : GFate} (h : fs[i.toNat]? = some f) (hf : ¬ fateP f) : fatesOk fs = false := by
  cases e : fatesOk fs with
  | false => rfl
  | true => exact absurd (of_decide_eq_true (List.all_eq_true.1 e f (List.mem_of_getElem? h))) hf
end Go.Proofs.YtoeinhlmkpgjhaaGreatDoor
namespace Go.Proofs.YtoeinhlmkpgjhaaGreatDoor
open Go.RowKit
set_option linter.unusedVariables false
set_option linter.unusedSimpArgs false
set_option maxRecDepth 100000 in
set_option maxHeartbeats 4000000 in
theorem lnDigI_c {n : Int} {w : World} (hG : GB w) (h0 : -9223372036854775808 ≤ n) (h1 : n ≤ 9223372036854775807) : Calls Tryz.prog 35 #[.int .i64 n] w fun e w' => e = .returned (.string ⟨(Lib.itoa n).toArray⟩) ∧ Adds w w' := by
  have K : Keeps (fun _ => False) w w := Keeps.refl _ w
  refine Calls.start Tryz.func35 rfl (by kernel_rfl) ?_
  refine WC.seq ?_
  refine WC.region ?_
  refine WL.op (d := 2) (.string ⟨#[]⟩) (k := ?_)
  refine WL.nil ?_
  refine WX.seqN ?_
  refine WC.seq ?_
  refine WC.region ?_
  refine WL.op (d := 3) (.int .i64 n) (k := ?_)
  refine WL.callG (d := 4) (f := 60) (args := #[.int .i64 n, .int .i64 10]) (lItoa_c (n := n) (hG.keeps K (fun _ _ x => x)) (by omega) (by omega)) (k := fun e_ w2 h_ => ⟨.string ⟨(Lib.itoa n).toArray⟩, h_.1, ?_⟩)
  have k3 := h_.2; clear h_
  replace K := K.trans (k3.any _)
  have il1 := itoa_le (n := n) (by omega) (by omega)
  refine WL.op (d := 2) (.string ⟨(Lib.itoa n).toArray⟩) (k := ?_)
  refine WL.nil ?_
  refine WX.seqN ?_
  refine WC.ret ?_
  refine WX.ret (rs := [.tmp 2]) [.string ⟨(Lib.itoa n).toArray⟩] (.string ⟨(Lib.itoa n).toArray⟩) ⟨(by kernel_rfl), trivial⟩ (k := ?_)
  exact ⟨rfl, K⟩
set_option maxRecDepth 100000 in
set_option maxHeartbeats 4000000 in
theorem lnDigL_c {n : Int} {w : World} (hG : GB w) (h0 : -9223372036854775808 ≤ n) (h1 : n ≤ 9223372036854775807) : Calls Tryz.prog 36 #[.int .i64 n] w fun e w' => e = .returned (.string ⟨(Lib.itoa n).toArray⟩) ∧ Adds w w' := by
  have K : Keeps (fun _ => False) w w := Keeps.refl _ w
  refine Calls.start Tryz.func36 rfl (by kernel_rfl) ?_
  refine WC.seq ?_
  refine WC.region ?_
  refine WL.op (d := 2) (.string ⟨#[]⟩) (k := ?_)
  refine WL.nil ?_
  refine WX.seqN ?_
  refine WC.seq ?_
  refine WC.region ?_
  refine WL.op (d := 3) (.int .i64 n) (k := ?_)
  refine WL.callG (d := 4) (f := 60) (args := #[.int .i64 n, .int .i64 10]) (lItoa_c (n := n) (hG.keeps K (fun _ _ x => x)) (by omega) (by omega)) (k := fun e_ w2 h_ => ⟨.string ⟨(Lib.itoa n).toArray⟩, h_.1, ?_⟩)
  have k3 := h_.2; clear h_
  replace K := K.trans (k3.any _)
  have il1 := itoa_le (n := n) (by omega) (by omega)
  refine WL.op (d := 2) (.string ⟨(Lib.itoa n).toArray⟩) (k := ?_)
  refine WL.nil ?_
  refine WX.seqN ?_
  refine WC.ret ?_
  refine WX.ret (rs := [.tmp 2]) [.string ⟨(Lib.itoa n).toArray⟩] (.string ⟨(Lib.itoa n).toArray⟩) ⟨(by kernel_rfl), trivial⟩ (k := ?_)
  exact ⟨rfl, K⟩
set_option maxRecDepth 100000 in
set_option maxHeartbeats 4000000 in
theorem lnTask_c (t : GTask) {w : World} (hG : GB w) : Calls Tryz.prog 17 #[t.val] w fun e w' => e = .returned (.string ⟨(taskW t).toArray⟩) ∧ Adds w w' := by
  have K : Keeps (fun _ => False) w w := Keeps.refl _ w
  refine Calls.start Tryz.func17 rfl (by kernel_rfl) ?_
  refine WC.seq ?_
  refine WC.region ?_
  refine WL.new (d := 1) (T := 29) (Value.cells (GTask.val t)) (k := fun b1 w2 g3 hb4 k5 => ?_)
  have z6 := Nat.le_trans K.size g3
  replace K := K.trans (k5.any _)
  refine WL.op (d := 2) (.string ⟨#[]⟩) (k := ?_)
  refine WL.nil ?_
  refine WX.seqN ?_
  refine WC.seq ?_
  refine WC.seq ?_
  refine WC.region ?_
  refine WL.load (v := GTask.val t) (ldN (T := 29) (i := 0) (m := 5) (l := (Value.cells (GTask.val t)).toList) hb4) (k := ?_)
  refine WL.callG (d := 4) (f := 30) (args := #[GTask.val t]) (pCheck_c t w2) (k := fun e_ w7 h_ => ⟨.bool (decide (GTask.ok t)), h_.1, ?_⟩)
  have k8 := h_.2; clear h_
  replace hb4 := k8.heap hb4 id
  replace K := K.trans (k8.any _)
  refine WL.op (d := 5) (.bool (!(decide (GTask.ok t)))) (k := ?_)
  refine WL.nil ?_
  refine WX.seqN ?_
  refine WC.cond (b := !(decide (GTask.ok t))) (ht := fun h9 => ?_) (hf := fun h9 => ?_)
  · have h10 : (decide (GTask.ok t)) = false := Bool.not_inj (y := false) h9
    have ph10 := of_decide_eq_false h10
    refine WC.seq ?_
    refine WC.region ?_
    refine WL.op (d := 2) (.string ⟨#[]⟩) (k := ?_)
    refine WL.nil ?_
    refine WX.seqN ?_
    refine WC.ret ?_
    refine WX.seqR ?_
    refine WX.ret (rs := [.tmp 2]) [.string ⟨#[]⟩] (.string ⟨#[]⟩) ⟨(by kernel_rfl), trivial⟩ (k := ?_)
    exact ⟨by rw [taskW, if_neg ph10], K⟩
  · have h11 : (decide (GTask.ok t)) = true := Bool.not_inj (y := true) h9
    have ph11 := of_decide_eq_true h11
    refine WC.skip ?_
    refine WX.seqN ?_
    refine WC.seq ?_
    have un12 := ph11
    unfold GTask.ok at un12
    refine WC.mixed (fun _ => False) 19 (k := fun w13 k14 => ?_)
    replace hb4 := k14.heap hb4 id
    replace K := K.trans (k14.any _)
    have KC := Keeps.refl (fun _ => False) w13
    have bh15 := hb4
    have Kb := K
    refine WA.quiet 0 (d := 6) (.pointer (some ⟨b1, 0, none⟩)) KC (hi := rfl) (k := ?_)
    refine WA.quietR 1 (d := 7) (.int .i64 t.id) KC (exec_load (fun w_ k_ => ld1 (T := 3) (i := 0) (k_.heap bh15 id))) (hi := rfl) (k := ?_)
    refine WA.quiet 4 (d := 10) (.pointer (some ⟨b1, 1, none⟩)) KC (hi := rfl) (k := ?_)
    refine WA.quietR 5 (d := 11) (.int .i64 t.c) KC (exec_load (fun w_ k_ => ld1 (T := 2) (i := 1) (k_.heap bh15 id))) (hi := rfl) (k := ?_)
    refine WA.quiet 7 (d := 13) (.pointer (some ⟨b1, 2, none⟩)) KC (hi := rfl) (k := ?_)
    refine WA.quietR 8 (d := 14) (.int .i64 t.d) KC (exec_load (fun w_ k_ => ld1 (T := 2) (i := 2) (k_.heap bh15 id))) (hi := rfl) (k := ?_)
    refine WA.quiet 10 (d := 16) (.pointer (some ⟨b1, 3, none⟩)) KC (hi := rfl) (k := ?_)
    refine WA.quietR 11 (d := 17) (.int .i64 t.t) KC (exec_load (fun w_ k_ => ld1 (T := 2) (i := 3) (k_.heap bh15 id))) (hi := rfl) (k := ?_)
    refine WA.quiet 13 (d := 19) (.pointer (some ⟨b1, 4, none⟩)) KC (hi := rfl) (k := ?_)
    refine WA.quietR 14 (d := 20) (.int .i64 t.m) KC (exec_load (fun w_ k_ => ld1 (T := 3) (i := 4) (k_.heap bh15 id))) (hi := rfl) (k := ?_)
    refine WA.step 2 (hi := rfl) (k := ?_)
    refine WL.callG (d := 8) (f := 35) (args := #[.int .i64 t.id]) (lnDigI_c (n := t.id) (hG.keeps K (fun _ _ x => x)) (by omega) (by omega)) (k := fun e_ w17 h_ => ⟨.string ⟨(Lib.itoa t.id).toArray⟩, h_.1, ?_⟩)
    have k18 := h_.2; clear h_
    replace hb4 := k18.heap hb4 id
    replace K := K.trans (k18.any _)
    replace KC := KC.trans (k18.any _)
    have il16 := itoa_le (n := t.id) (by omega) (by omega)
    refine WL.nil ?_
    refine WX.nxt KC ?_
    refine WA.quietR 3 (d := 9) (.string ⟨((Lib.itoa t.id) ++ [58]).toArray⟩) KC (exec_bin (fun _ => cat_run (by (try simp only [List.length_append, List.length_cons, List.length_nil]); omega))) (hi := rfl) (k := ?_)
    refine WA.step 6 (hi := rfl) (k := ?_)
    refine WL.callG (d := 12) (f := 36) (args := #[.int .i64 t.c]) (lnDigL_c (n := t.c) (hG.keeps K (fun _ _ x => x)) (by omega) (by omega)) (k := fun e_ w20 h_ => ⟨.string ⟨(Lib.itoa t.c).toArray⟩, h_.1, ?_⟩)
    have k21 := h_.2; clear h_
    replace hb4 := k21.heap hb4 id
    replace K := K.trans (k21.any _)
    replace KC := KC.trans (k21.any _)
    have il19 := itoa_le (n := t.c) (by omega) (by omega)
    refine WL.nil ?_
    refine WX.nxt KC ?_
    refine WA.step 9 (hi := rfl) (k := ?_)
    refine WL.callG (d := 15) (f := 36) (args := #[.int .i64 t.d]) (lnDigL_c (n := t.d) (hG.keeps K (fun _ _ x => x)) (by omega) (by omega)) (k := fun e_ w23 h_ => ⟨.string ⟨(Lib.itoa t.d).toArray⟩, h_.1, ?_⟩)
    have k24 := h_.2; clear h_
    replace hb4 := k24.heap hb4 id
    replace K := K.trans (k24.any _)
    replace KC := KC.trans (k24.any _)
    have il22 := itoa_le (n := t.d) (by omega) (by omega)
    refine WL.nil ?_
    refine WX.nxt KC ?_
    refine WA.step 12 (hi := rfl) (k := ?_)
    refine WL.callG (d := 18) (f := 36) (args := #[.int .i64 t.t]) (lnDigL_c (n := t.t) (hG.keeps K (fun _ _ x => x)) (by omega) (by omega)) (k := fun e_ w26 h_ => ⟨.string ⟨(Lib.itoa t.t).toArray⟩, h_.1, ?_⟩)
    have k27 := h_.2; clear h_
    replace hb4 := k27.heap hb4 id
    replace K := K.trans (k27.any _)
    replace KC := KC.trans (k27.any _)
    have il25 := itoa_le (n := t.t) (by omega) (by omega)
    refine WL.nil ?_
    refine WX.nxt KC ?_
    refine WA.step 15 (hi := rfl) (k := ?_)
    refine WL.callG (d := 21) (f := 35) (args := #[.int .i64 t.m]) (lnDigI_c (n := t.m) (hG.keeps K (fun _ _ x => x)) (by omega) (by omega)) (k := fun e_ w29 h_ => ⟨.string ⟨(Lib.itoa t.m).toArray⟩, h_.1, ?_⟩)
    have k30 := h_.2; clear h_
    replace hb4 := k30.heap hb4 id
    replace K := K.trans (k30.any _)
    replace KC := KC.trans (k30.any _)
    have il28 := itoa_le (n := t.m) (by omega) (by omega)
    refine WL.nil ?_
    refine WX.nxt KC ?_
    refine WA.step 16 (hi := rfl) (k := ?_)
    refine WL.newF (d := 22) (T := 9) #[.string ⟨(Lib.itoa t.c).toArray⟩, .string ⟨(Lib.itoa t.d).toArray⟩, .string ⟨(Lib.itoa t.t).toArray⟩, .string ⟨(Lib.itoa t.m).toArray⟩] (fun b => .slice (some ⟨b, 0, none⟩) 4 4) (k := fun b31 w32 g33 hb34 k35 => ?_)
    have z36 := Nat.le_trans K.size g33
    have zc37 := Nat.le_trans KC.size g33
    have n38 : b1 ≠ b31 := Nat.ne_of_lt (Nat.lt_of_lt_of_le (lt_of_heap hb4) g33)
    replace hb4 := k35.heap hb4 id
    replace K := K.trans (k35.any _)
    replace KC := KC.trans (k35.any _)
    refine WL.nil ?_
    refine WX.nxt KC ?_
    refine WA.step 17 (hi := rfl) (k := ?_)
    refine WL.callG (d := 23) (f := 38) (args := #[.slice (some ⟨b31, 0, none⟩) 4 4, .string ⟨#[47]⟩]) (lJoin_c (xs := [Lib.itoa t.c, Lib.itoa t.d, Lib.itoa t.t, Lib.itoa t.m]) (c := 47) (cap := 4) (SlAt.of_lit (ys := [Lib.itoa t.c, Lib.itoa t.d, Lib.itoa t.t, Lib.itoa t.m]) ekStr hb34 (by kernel_rfl)) (by show 4 ≤ 4; omega) (by show 4 ≤ _; omega) (Nat.le_trans (taskJ_le ph11) (by omega))) (k := fun e_ w40 h_ => ⟨.string ⟨(joinL 47 [Lib.itoa t.c, Lib.itoa t.d, Lib.itoa t.t, Lib.itoa t.m]).toArray⟩, h_.1, ?_⟩)
    have k41 := h_.2; clear h_
    replace hb4 := k41.heap hb4 id
    replace hb34 := k41.heap hb34 id
    replace K := K.trans (k41.any _)
    replace KC := KC.trans (k41.any _)
    have jl39 := taskJ_le ph11
    refine WL.nil ?_
    refine WX.nxt KC ?_
    refine WA.quietR 18 (d := 24) (.string ⟨((Lib.itoa t.id) ++ [58] ++ (joinL 47 [Lib.itoa t.c, Lib.itoa t.d, Lib.itoa t.t, Lib.itoa t.m])).toArray⟩) KC (exec_bin (fun _ => cat_run (by (try simp only [List.length_append, List.length_cons, List.length_nil]); omega))) (hi := rfl) (k := ?_)
    refine WA.step 19 (hi := rfl) (k := ?_)
    refine WL.op (d := 2) (.string ⟨((Lib.itoa t.id) ++ [58] ++ (joinL 47 [Lib.itoa t.c, Lib.itoa t.d, Lib.itoa t.t, Lib.itoa t.m])).toArray⟩) (k := ?_)
    refine WL.nil ?_
    refine WX.nxtL ?_
    refine WA.done (k := ?_)
    clear KC
    refine WX.seqN ?_
    refine WC.ret ?_
    refine WX.ret (rs := [.tmp 2]) [.string ⟨((Lib.itoa t.id) ++ [58] ++ (joinL 47 [Lib.itoa t.c, Lib.itoa t.d, Lib.itoa t.t, Lib.itoa t.m])).toArray⟩] (.string ⟨((Lib.itoa t.id) ++ [58] ++ (joinL 47 [Lib.itoa t.c, Lib.itoa t.d, Lib.itoa t.t, Lib.itoa t.m])).toArray⟩) ⟨(by kernel_rfl), trivial⟩ (k := ?_)
    exact ⟨by rw [taskW, if_pos ph11], K⟩
theorem OwAt.of_row {α : Type} {cl : α → List Value} {m : Nat} {E : TypeId} {b : Nat} {ys : List α} {cs : Array Value} {w : World} (hk : EK cl m E) (hb : w.heap[b]? = some (.cells cs E (0, 0))) (hcs : cs.toList = ys.flatMap cl) (hn : ys.length ≤ 1000000) : OwAt cl m E (some ⟨b, 0, none⟩) ys.length ys w := by
  have hl : ∀ l : List α, (l.flatMap cl).length = l.length * m := fun l => by
    induction l with
    | nil => simp
    | cons x l ih => simp [List.flatMap_cons, hk.len, ih, Nat.add_mul, Nat.add_comm]
  refine ⟨hl ys, .inr ⟨b, ys.length, cs, rfl, Nat.zero_le _, hb, Nat.le_refl _, by unfold maxLen; omega, ?_, ?_⟩⟩
  · rw [← hl ys, ← hcs]; simp
  · rw [hcs, ← hl ys, List.take_length]
theorem opok_rng {o : GOp} (h : o.ok) : -9223372036854775808 ≤ o.id ∧ o.id ≤ 9223372036854775807 ∧ -9223372036854775808 ≤ o.c ∧ o.c ≤ 9223372036854775807 ∧ -9223372036854775808 ≤ o.m ∧ o.m ≤ 9223372036854775807 := by
  obtain ⟨h1, h2⟩ := h
  unfold GOp.right at h2
  have e1 := congrArg GOp.id h1
  have e2 := congrArg GOp.c h1
  have e3 := congrArg GOp.m h1
  unfold GOp.bare at e1 e2 e3
  by_cases k1 : o.kind = 1
  · simp only [k1, if_true] at e1 e2 e3; omega
  · by_cases k2 : o.kind = 2
    · simp only [k1, k2, if_true, if_false] at e1 e2 e3 h2; simp at e1 e2 e3 h2; omega
    · by_cases k3 : o.kind = 3
      · simp only [k1, k2, k3, if_true, if_false] at e1 e2 e3 h2; simp at e1 e2 e3 h2; omega
      · by_cases k4 : o.kind = 4
        · simp only [k1, k2, k3, k4, if_true, if_false] at e1 e2 e3 h2; simp at e1 e2 e3 h2; omega
        · simp only [k1, k2, k3, k4, if_true, if_false] at e1 e2 e3; omega
set_option maxRecDepth 100000 in
set_option maxHeartbeats 4000000 in
theorem lnOp_c {o : GOp} (ho : o.ok) {w : World} (hG : GB w) : Calls Tryz.prog 34 #[o.val] w fun e w' => ∃ A c, e = .returned (.slice A (opW o).length c) ∧ OwAt strC 1 9 A c (opW o) w' ∧ Adds w w' ∧ (∀ i, blk A = some i → w.heap.size ≤ i) := by
  have K : Keeps (fun _ => False) w w := Keeps.refl _ w
  refine Calls.start Tryz.func34 rfl (by kernel_rfl) ?_
  refine WC.seq ?_
  refine WC.region ?_
  refine WL.new (d := 1) (T := 36) (Value.cells (GOp.val o)) (k := fun b1 w2 g3 hb4 k5 => ?_)
  have z6 := Nat.le_trans K.size g3
  replace K := K.trans (k5.any _)
  refine WL.op (d := 2) (.slice none 0 0) (k := ?_)
  refine WL.nil ?_
  refine WX.seqN ?_
  refine WC.seq ?_
  refine WC.seq ?_
  have or_ := opok_rng ho
  obtain ⟨or1_, or2_, or3_, or4_, or5_, or6_⟩ := or_
  refine WC.region ?_
  refine WL.op (d := 3) (.pointer (some ⟨b1, 0, none⟩)) (k := ?_)
  refine WL.load (v := .int .i64 o.kind) (ld1 (T := 3) (i := 0) hb4) (k := ?_)
  refine WL.nil ?_
  refine WX.seqN ?_
  refine WC.block ?_
  refine WC.seq ?_
  refine WC.region ?_
  refine WL.op (d := 6) (.bool (o.kind == 1)) (k := ?_)
  refine WL.op (d := 5) (.bool (o.kind == 1)) (k := ?_)
  refine WL.nil ?_
  refine WX.seqN ?_
  refine WC.cond (b := o.kind == 1) (ht := fun h7 => ?_) (hf := fun h7 => ?_)
  · have ph7 := eq_of_beq h7
    refine WC.seq ?_
    refine WC.seq ?_
    refine WC.region ?_
    refine WL.op (d := 7) (.pointer (some ⟨b1, 6, none⟩)) (k := ?_)
    refine WL.load (v := .bool o.sv) (ld1 (T := 4) (i := 6) hb4) (k := ?_)
    refine WL.nil ?_
    refine WX.seqN ?_
    refine WC.cond (b := o.sv) (ht := fun h8 => ?_) (hf := fun h8 => ?_)
    · refine WC.seq ?_
      refine WC.region ?_
      refine WL.op (d := 9) (.pointer (some ⟨b1, 1, none⟩)) (k := ?_)
      refine WL.load (v := GTask.val o.task) (ldN (T := 29) (i := 1) (m := 5) (l := (Value.cells (GTask.val o.task)).toList) hb4) (k := ?_)
      refine WL.callG (d := 11) (f := 17) (args := #[GTask.val o.task]) (lnTask_c o.task (hG.keeps K (fun _ _ x => x))) (k := fun e_ w9 h_ => ⟨.string ⟨(taskW o.task).toArray⟩, h_.1, ?_⟩)
      have k10 := h_.2; clear h_
      replace hb4 := k10.heap hb4 id
      replace K := K.trans (k10.any _)
      refine WL.newF (d := 12) (T := 9) #[.string ⟨#[115, 101, 114, 118, 101]⟩, .string ⟨(taskW o.task).toArray⟩] (fun b => .slice (some ⟨b, 0, none⟩) 2 2) (k := fun b11 w12 g13 hb14 k15 => ?_)
      have z16 := Nat.le_trans K.size g13
      have n17 : b1 ≠ b11 := Nat.ne_of_lt (Nat.lt_of_lt_of_le (lt_of_heap hb4) g13)
      replace hb4 := k15.heap hb4 id
      replace K := K.trans (k15.any _)
      refine WL.op (d := 2) (.slice (some ⟨b11, 0, none⟩) 2 2) (k := ?_)
      refine WL.nil ?_
      refine WX.seqN ?_
      refine WC.ret ?_
      refine WX.seqR ?_
      refine WX.blockR ?_
      refine WX.seqR ?_
      refine WX.ret (rs := [.tmp 2]) [.slice (some ⟨b11, 0, none⟩) 2 2] (.slice (some ⟨b11, 0, none⟩) 2 2) ⟨(by kernel_rfl), trivial⟩ (k := ?_)
      have eo_ : [[115, 101, 114, 118, 101], taskW o.task] = opW o := by rw [opW, if_pos ph7, if_pos h8]
      have sl_ := OwAt.of_row (ys := [[115, 101, 114, 118, 101], taskW o.task]) ekStr hb14 (by kernel_rfl) (by simp)
      rw [← eo_]
      exact ⟨_, _, rfl, sl_, K, fun i hi => by cases hi; exact z16⟩
    · refine WC.skip ?_
      refine WX.seqN ?_
      refine WC.seq ?_
      refine WC.region ?_
      refine WL.op (d := 13) (.pointer (some ⟨b1, 1, none⟩)) (k := ?_)
      refine WL.load (v := GTask.val o.task) (ldN (T := 29) (i := 1) (m := 5) (l := (Value.cells (GTask.val o.task)).toList) hb4) (k := ?_)
      refine WL.callG (d := 15) (f := 17) (args := #[GTask.val o.task]) (lnTask_c o.task (hG.keeps K (fun _ _ x => x))) (k := fun e_ w18 h_ => ⟨.string ⟨(taskW o.task).toArray⟩, h_.1, ?_⟩)
      have k19 := h_.2; clear h_
      replace hb4 := k19.heap hb4 id
      replace K := K.trans (k19.any _)
      refine WL.newF (d := 16) (T := 9) #[.string ⟨#[97, 100, 109, 105, 116]⟩, .string ⟨(taskW o.task).toArray⟩] (fun b => .slice (some ⟨b, 0, none⟩) 2 2) (k := fun b20 w21 g22 hb23 k24 => ?_)
      have z25 := Nat.le_trans K.size g22
      have n26 : b1 ≠ b20 := Nat.ne_of_lt (Nat.lt_of_lt_of_le (lt_of_heap hb4) g22)
      replace hb4 := k24.heap hb4 id
      replace K := K.trans (k24.any _)
      refine WL.op (d := 2) (.slice (some ⟨b20, 0, none⟩) 2 2) (k := ?_)
      refine WL.nil ?_
      refine WX.seqN ?_
      refine WC.ret ?_
      refine WX.blockR ?_
      refine WX.seqR ?_
      refine WX.ret (rs := [.tmp 2]) [.slice (some ⟨b20, 0, none⟩) 2 2] (.slice (some ⟨b20, 0, none⟩) 2 2) ⟨(by kernel_rfl), trivial⟩ (k := ?_)
      have eo_ : [[97, 100, 109, 105, 116], taskW o.task] = opW o := by rw [opW, if_pos ph7, if_neg (by rw [h8]; decide)]
      have sl_ := OwAt.of_row (ys := [[97, 100, 109, 105, 116], taskW o.task]) ekStr hb23 (by kernel_rfl) (by simp)
      rw [← eo_]
      exact ⟨_, _, rfl, sl_, K, fun i hi => by cases hi; exact z25⟩
  · have ph7 := ne_of_beq_false h7
    refine WC.seq ?_
    refine WC.region ?_
    refine WL.op (d := 18) (.bool (o.kind == 2)) (k := ?_)
    refine WL.op (d := 17) (.bool (o.kind == 2)) (k := ?_)
    refine WL.nil ?_
    refine WX.seqN ?_
    refine WC.cond (b := o.kind == 2) (ht := fun h27 => ?_) (hf := fun h27 => ?_)
    · have ph27 := eq_of_beq h27
      refine WC.seq ?_
      refine WC.region ?_
      refine WL.op (d := 19) (.pointer (some ⟨b1, 7, none⟩)) (k := ?_)
      refine WL.load (v := .int .i64 o.id) (ld1 (T := 3) (i := 7) hb4) (k := ?_)
      refine WL.callG (d := 21) (f := 35) (args := #[.int .i64 o.id]) (lnDigI_c (n := o.id) (hG.keeps K (fun _ _ x => x)) (by omega) (by omega)) (k := fun e_ w29 h_ => ⟨.string ⟨(Lib.itoa o.id).toArray⟩, h_.1, ?_⟩)
      have k30 := h_.2; clear h_
      replace hb4 := k30.heap hb4 id
      replace K := K.trans (k30.any _)
      have il28 := itoa_le (n := o.id) (by omega) (by omega)
      refine WL.newF (d := 22) (T := 9) #[.string ⟨#[114, 101, 109, 111, 118, 101]⟩, .string ⟨(Lib.itoa o.id).toArray⟩] (fun b => .slice (some ⟨b, 0, none⟩) 2 2) (k := fun b31 w32 g33 hb34 k35 => ?_)
      have z36 := Nat.le_trans K.size g33
      have n37 : b1 ≠ b31 := Nat.ne_of_lt (Nat.lt_of_lt_of_le (lt_of_heap hb4) g33)
      replace hb4 := k35.heap hb4 id
      replace K := K.trans (k35.any _)
      refine WL.op (d := 2) (.slice (some ⟨b31, 0, none⟩) 2 2) (k := ?_)
      refine WL.nil ?_
      refine WX.seqN ?_
      refine WC.ret ?_
      refine WX.blockR ?_
      refine WX.seqR ?_
      refine WX.ret (rs := [.tmp 2]) [.slice (some ⟨b31, 0, none⟩) 2 2] (.slice (some ⟨b31, 0, none⟩) 2 2) ⟨(by kernel_rfl), trivial⟩ (k := ?_)
      have eo_ : [[114, 101, 109, 111, 118, 101], Lib.itoa o.id] = opW o := by rw [opW, if_neg ph7, if_pos ph27]
      have sl_ := OwAt.of_row (ys := [[114, 101, 109, 111, 118, 101], Lib.itoa o.id]) ekStr hb34 (by kernel_rfl) (by simp)
      rw [← eo_]
      exact ⟨_, _, rfl, sl_, K, fun i hi => by cases hi; exact z36⟩
    · have ph27 := ne_of_beq_false h27
      refine WC.seq ?_
      refine WC.region ?_
      refine WL.op (d := 24) (.bool (o.kind == 3)) (k := ?_)
      refine WL.op (d := 23) (.bool (o.kind == 3)) (k := ?_)
      refine WL.nil ?_
      refine WX.seqN ?_
      refine WC.cond (b := o.kind == 3) (ht := fun h38 => ?_) (hf := fun h38 => ?_)
      · have ph38 := eq_of_beq h38
        refine WC.seq ?_
        refine WC.mixed (fun _ => False) 7 (k := fun w39 k40 => ?_)
        replace hb4 := k40.heap hb4 id
        replace K := K.trans (k40.any _)
        have KC := Keeps.refl (fun _ => False) w39
        have bh41 := hb4
        have Kb := K
        refine WA.quiet 0 (d := 25) (.pointer (some ⟨b1, 7, none⟩)) KC (hi := rfl) (k := ?_)
        refine WA.quietR 1 (d := 26) (.int .i64 o.id) KC (exec_load (fun w_ k_ => ld1 (T := 3) (i := 7) (k_.heap bh41 id))) (hi := rfl) (k := ?_)
        refine WA.quiet 3 (d := 28) (.pointer (some ⟨b1, 8, none⟩)) KC (hi := rfl) (k := ?_)
        refine WA.quietR 4 (d := 29) (.int .i64 o.c) KC (exec_load (fun w_ k_ => ld1 (T := 2) (i := 8) (k_.heap bh41 id))) (hi := rfl) (k := ?_)
        refine WA.step 2 (hi := rfl) (k := ?_)
        refine WL.callG (d := 27) (f := 35) (args := #[.int .i64 o.id]) (lnDigI_c (n := o.id) (hG.keeps K (fun _ _ x => x)) (by omega) (by omega)) (k := fun e_ w43 h_ => ⟨.string ⟨(Lib.itoa o.id).toArray⟩, h_.1, ?_⟩)
        have k44 := h_.2; clear h_
        replace hb4 := k44.heap hb4 id
        replace K := K.trans (k44.any _)
        replace KC := KC.trans (k44.any _)
        have il42 := itoa_le (n := o.id) (by omega) (by omega)
        refine WL.nil ?_
        refine WX.nxt KC ?_
        refine WA.step 5 (hi := rfl) (k := ?_)
        refine WL.callG (d := 30) (f := 36) (args := #[.int .i64 o.c]) (lnDigL_c (n := o.c) (hG.keeps K (fun _ _ x => x)) (by omega) (by omega)) (k := fun e_ w46 h_ => ⟨.string ⟨(Lib.itoa o.c).toArray⟩, h_.1, ?_⟩)
        have k47 := h_.2; clear h_
        replace hb4 := k47.heap hb4 id
        replace K := K.trans (k47.any _)
        replace KC := KC.trans (k47.any _)
        have il45 := itoa_le (n := o.c) (by omega) (by omega)
        refine WL.nil ?_
        refine WX.nxt KC ?_
        refine WA.step 6 (hi := rfl) (k := ?_)
        refine WL.newF (d := 31) (T := 9) #[.string ⟨#[114, 101, 115, 105, 122, 101]⟩, .string ⟨(Lib.itoa o.id).toArray⟩, .string ⟨(Lib.itoa o.c).toArray⟩] (fun b => .slice (some ⟨b, 0, none⟩) 3 3) (k := fun b48 w49 g50 hb51 k52 => ?_)
        have z53 := Nat.le_trans K.size g50
        have zc54 := Nat.le_trans KC.size g50
        have n55 : b1 ≠ b48 := Nat.ne_of_lt (Nat.lt_of_lt_of_le (lt_of_heap hb4) g50)
        replace hb4 := k52.heap hb4 id
        replace K := K.trans (k52.any _)
        replace KC := KC.trans (k52.any _)
        refine WL.nil ?_
        refine WX.nxt KC ?_
        refine WA.step 7 (hi := rfl) (k := ?_)
        refine WL.op (d := 2) (.slice (some ⟨b48, 0, none⟩) 3 3) (k := ?_)
        refine WL.nil ?_
        refine WX.nxtL ?_
        refine WA.done (k := ?_)
        clear KC
        refine WX.seqN ?_
        refine WC.ret ?_
        refine WX.blockR ?_
        refine WX.seqR ?_
        refine WX.ret (rs := [.tmp 2]) [.slice (some ⟨b48, 0, none⟩) 3 3] (.slice (some ⟨b48, 0, none⟩) 3 3) ⟨(by kernel_rfl), trivial⟩ (k := ?_)
        have eo_ : [[114, 101, 115, 105, 122, 101], Lib.itoa o.id, Lib.itoa o.c] = opW o := by rw [opW, if_neg ph7, if_neg ph27, if_pos ph38]
        have sl_ := OwAt.of_row (ys := [[114, 101, 115, 105, 122, 101], Lib.itoa o.id, Lib.itoa o.c]) ekStr hb51 (by kernel_rfl) (by simp)
        rw [← eo_]
        exact ⟨_, _, rfl, sl_, K, fun i hi => by cases hi; exact z53⟩
      · have ph38 := ne_of_beq_false h38
        refine WC.skip ?_
        refine WX.blockN ?_
        refine WX.seqN ?_
        refine WC.seq ?_
        refine WC.region ?_
        refine WL.op (d := 32) (.pointer (some ⟨b1, 9, none⟩)) (k := ?_)
        refine WL.load (v := .int .i64 o.m) (ld1 (T := 3) (i := 9) hb4) (k := ?_)
        refine WL.callG (d := 34) (f := 35) (args := #[.int .i64 o.m]) (lnDigI_c (n := o.m) (hG.keeps K (fun _ _ x => x)) (by omega) (by omega)) (k := fun e_ w57 h_ => ⟨.string ⟨(Lib.itoa o.m).toArray⟩, h_.1, ?_⟩)
        have k58 := h_.2; clear h_
        replace hb4 := k58.heap hb4 id
        replace K := K.trans (k58.any _)
        have il56 := itoa_le (n := o.m) (by omega) (by omega)
        refine WL.newF (d := 35) (T := 9) #[.string ⟨#[109, 111, 100, 101]⟩, .string ⟨(Lib.itoa o.m).toArray⟩] (fun b => .slice (some ⟨b, 0, none⟩) 2 2) (k := fun b59 w60 g61 hb62 k63 => ?_)
        have z64 := Nat.le_trans K.size g61
        have n65 : b1 ≠ b59 := Nat.ne_of_lt (Nat.lt_of_lt_of_le (lt_of_heap hb4) g61)
        replace hb4 := k63.heap hb4 id
        replace K := K.trans (k63.any _)
        refine WL.op (d := 2) (.slice (some ⟨b59, 0, none⟩) 2 2) (k := ?_)
        refine WL.nil ?_
        refine WX.seqN ?_
        refine WC.ret ?_
        refine WX.ret (rs := [.tmp 2]) [.slice (some ⟨b59, 0, none⟩) 2 2] (.slice (some ⟨b59, 0, none⟩) 2 2) ⟨(by kernel_rfl), trivial⟩ (k := ?_)
        have eo_ : [[109, 111, 100, 101], Lib.itoa o.m] = opW o := by rw [opW, if_neg ph7, if_neg ph27, if_neg ph38]
        have sl_ := OwAt.of_row (ys := [[109, 111, 100, 101], Lib.itoa o.m]) ekStr hb62 (by kernel_rfl) (by simp)
        rw [← eo_]
        exact ⟨_, _, rfl, sl_, K, fun i hi => by cases hi; exact z64⟩
noncomputable def fatesR (fs : List GFate) : List (List UInt8) := if fatesOk fs = true then fatesW fs else []
set_option maxRecDepth 100000 in
set_option maxHeartbeats 4000000 in
theorem lnFates_c {A : Option Addr} {cp : Nat} {fs : List GFate} {w : World} (hG : GB w) (hA : SlAt fateC 2 72 A fs w) (hn : fs.length ≤ 1000000) (hf : ∀ f ∈ fs, f.ok) : Calls Tryz.prog 37 #[.slice A fs.length cp] w fun e w' => ∃ A c, e = .returned (.tuple #[.slice A (fatesR fs).length c, .bool (fatesOk fs)]) ∧ OwAt strC 1 9 A c (fatesR fs) w' ∧ Adds w w' ∧ (∀ i, blk A = some i → w.heap.size ≤ i) := by
  have K : Keeps (fun _ => False) w w := Keeps.refl _ w
  refine Calls.start Tryz.func37 rfl (by kernel_rfl) ?_
  refine WC.seq ?_
  refine WC.region ?_
  refine WL.op (d := 2) (.slice none 0 0) (k := ?_)
  refine WL.op (d := 3) (.bool false) (k := ?_)
  refine WL.nil ?_
  refine WX.seqN ?_
  refine WC.seq ?_
  refine WC.region ?_
  refine WL.newF (d := 7) (T := 9) #[.string ⟨#[99, 114, 97, 115, 104]⟩] (fun b => .slice (some ⟨b, 0, none⟩) 1 1) (k := fun b1 w2 g3 hb4 k5 => ?_)
  have z6 := Nat.le_trans K.size g3
  replace K := K.trans (k5.any _)
  refine WL.op (d := 4) (.slice (some ⟨b1, 0, none⟩) 1 1) (k := ?_)
  refine WL.nil ?_
  refine WX.seqN ?_
  refine WC.seq ?_
  refine WC.seq ?_
  refine WC.region ?_
  refine WL.op (d := 8) (.slice A fs.length cp) (k := ?_)
  refine WL.op (d := 9) (.int .i64 (fs.length : Int)) (k := ?_)
  refine WL.op (d := 10) (.int .i64 0) (k := ?_)
  refine WL.nil ?_
  refine WX.seqN ?_
  refine WC.block ?_
  have ho7 := OwAt.of_row (ys := [kCrash]) ekStr hb4 (by kernel_rfl) (by simp)
  rw [← fatesU_zero fs] at ho7
  have ol8 : ∀ i, blk (some ⟨b1, 0, none⟩) = some i → w.heap.size ≤ i := fun i e => by cases e; exact z6
  refine WC.rw (t := 4) (v := .slice (some ⟨b1, 0, none⟩) ((fatesU fs 0).length) ((fatesU fs 0).length)) (congrArg (fun n => Value.slice (some ⟨b1, 0, none⟩) n n) (show 1 = (fatesU fs 0).length by rw [fatesU_zero]; rfl)) (k := ?_)
  refine WC.loop (ι := Int × (Option Addr) × Nat) (fun (⟨i, Ao, co⟩ : Int × (Option Addr) × Nat) => [(0, .slice A fs.length cp), (7, .slice (some ⟨b1, 0, none⟩) 1 1), (8, .slice A fs.length cp), (9, .int .i64 (fs.length : Int)), (10, .int .i64 i), (4, .slice Ao ((fatesU fs i).length) co)]) (fun (⟨i, Ao, co⟩ : Int × (Option Addr) × Nat) (w_ : World) => (Keeps (fun _ => False) w w_) ∧ (OwAt strC 1 9 Ao co (fatesU fs i) w_) ∧ (∀ i, blk Ao = some i → w.heap.size ≤ i) ∧ (0 ≤ i) ∧ (i ≤ fs.length) ∧ (okU fs i)) (fun (⟨i, Ao, co⟩ : Int × (Option Addr) × Nat) => (fs.length - i).toNat) (0, (some ⟨b1, 0, none⟩), (fatesU fs 0).length) ⟨(by kernel_rfl), (by kernel_rfl), (by kernel_rfl), (by kernel_rfl), (by kernel_rfl), (by kernel_rfl), trivial⟩ ⟨K, ho7, ol8, Int.le_refl 0, (by omega), okU_zero _⟩ ?_
  rintro ⟨i, Ao, co⟩ w9 ⟨K, hb10, ol11, i0, i1, iu⟩
  have lm_ := fatesU_len fs i
  refine WC.seq ?_
  refine WC.region ?_
  refine WL.op (d := 11) (.bool (decide (i < (fs.length : Int)))) (k := ?_)
  refine WL.nil ?_
  refine WX.seqN ?_
  refine WC.seq ?_
  refine WC.cond (b := decide (i < (fs.length : Int))) (ht := fun h12 => ?_) (hf := fun h12 => ?_)
  · have ph12 := of_decide_eq_true h12
    refine WC.skip ?_
    refine WX.seqN ?_
    refine WC.seq ?_
    refine WC.block ?_
    refine WC.seq ?_
    refine WC.region ?_
    obtain ⟨b13, o14, r15, hr16, hA17, he18⟩ := SlAt.at hA (i := i) (by omega) (by omega)
    refine WL.rw (t := 8) (v := .slice (some ⟨b13, o14, none⟩) fs.length cp) (congrArg (fun a => Value.slice a fs.length cp) hA17) (k := ?_)
    have fk19 := hf _ (List.mem_of_getElem? hr16)
    unfold GFate.ok at fk19
    refine WL.idx (T := 37) (E := 72) (m := 2) (b := b13) (o := o14) (len := fs.length) (cap := cp) (i := i) (kk := .i64) (d := 12) (by omega) (by omega) (k := ?_)
    refine WL.rw (t := 8) (v := .slice A fs.length cp) (congrArg (fun a => Value.slice a fs.length cp) (Eq.symm hA17)) (k := ?_)
    refine WL.load (v := GFate.val r15) ((he18.adds K).ldW (T := 72)) (k := ?_)
    refine WL.new (d := 6) (T := 72) #[.int .i64 0, .int .i64 0] (k := fun b20 w21 g22 hb23 k24 => ?_)
    have z25 := Nat.le_trans K.size g22
    have n26 := OwAt.off_new hb10 g22
    replace hb10 := hb10.adds k24
    replace K := K.trans (k24.any _)
    refine WL.store (v := GFate.val r15) (i := 0) (cs' := (Value.cells (GFate.val r15))) hb23 (k := fun w27 hb28 k29 => ?_)
    replace hb10 := hb10.keeps k29 (fun i hi e => (n26) (e ▸ hi))
    replace K := K.trans' k29 (fun i hi e => absurd (e ▸ hi) (Nat.not_lt.2 z25))
    clear hb23
    refine WL.nil ?_
    refine WX.seqN ?_
    refine WC.block ?_
    refine WC.seq ?_
    refine WC.region ?_
    refine WL.op (d := 18) (.pointer (some ⟨b20, 0, none⟩)) (k := ?_)
    refine WL.load (v := .int .i64 r15.kind) (ld1 (T := 3) (i := 0) hb28) (k := ?_)
    refine WL.op (d := 20) (.bool (r15.kind == 2)) (k := ?_)
    refine WL.op (d := 17) (.bool (r15.kind == 2)) (k := ?_)
    refine WL.nil ?_
    refine WX.seqN ?_
    refine WC.cond (b := r15.kind == 2) (ht := fun h30 => ?_) (hf := fun h30 => ?_)
    · have ph30 := eq_of_beq h30
      refine WC.region ?_
      refine WL.op (d := 21) (.slice Ao ((fatesU fs i).length) co) (k := ?_)
      refine WL.op (d := 22) (.pointer (some ⟨b20, 1, none⟩)) (k := ?_)
      refine WL.load (v := .int .i64 r15.at_) (ld1 (T := 3) (i := 1) hb28) (k := ?_)
      refine WL.callG (d := 24) (f := 35) (args := #[.int .i64 r15.at_]) (lnDigI_c (n := r15.at_) (hG.keeps K (fun _ _ x => x)) (by omega) (by omega)) (k := fun e_ w32 h_ => ⟨.string ⟨(Lib.itoa r15.at_).toArray⟩, h_.1, ?_⟩)
      have k33 := h_.2; clear h_
      replace hb10 := hb10.adds k33
      replace hb28 := k33.heap hb28 id
      replace K := K.trans (k33.any _)
      have il31 := itoa_le (n := r15.at_) (by omega) (by omega)
      refine WL.newF (d := 25) (T := 9) #[.string ⟨#[116, 111, 114, 110]⟩, .string ⟨(Lib.itoa r15.at_).toArray⟩] (fun b => .slice (some ⟨b, 0, none⟩) 2 2) (k := fun b34 w35 g36 hb37 k38 => ?_)
      have z39 := Nat.le_trans K.size g36
      have n40 := OwAt.off_new hb10 g36
      have n41 : b20 ≠ b34 := Nat.ne_of_lt (Nat.lt_of_lt_of_le (lt_of_heap hb28) g36)
      replace hb10 := hb10.adds k38
      replace hb28 := k38.heap hb28 id
      replace K := K.trans (k38.any _)
      refine WL.append (d := 26) (T := 43) (cl := strC) (xs := fatesU fs i) (ys := [[116, 111, 114, 110], Lib.itoa r15.at_]) (c := 2) ekStr hb10 (SlAt.of_lit (ys := [[116, 111, 114, 110], Lib.itoa r15.at_]) ekStr hb37 (by kernel_rfl)) (by simp; omega) (k := fun A42 c43 w44 ho45 k46 n47 => ?_)
      have ol48 := olink_step ol11 K n47
      have n49 := off_step n47 n26 (lt_of_heap hb28)
      replace hb28 := k46.heap hb28 n26
      replace K := K.trans' k46 (fun i hi e => absurd hi (Nat.not_lt.2 (ol11 i e)))
      clear hb10
      refine WL.op (d := 4) (.slice A42 ((fatesU fs i ++ [[116, 111, 114, 110], Lib.itoa r15.at_]).length) c43) (k := ?_)
      refine WL.nil ?_
      refine WX.blockN ?_
      refine WX.blockN ?_
      refine WX.seqN ?_
      refine WC.region ?_
      refine WL.opE (d := 38) (.int .i64 (IntKind.i64.wrap (i + 1))) (v := .int .i64 (i + 1)) (congrArg (Value.int .i64) (IntWalk.i64_in _ (by omega))) (k := ?_)
      refine WL.op (d := 10) (.int .i64 (i + 1)) (k := ?_)
      refine WL.nil ?_
      have e50 : fatesU fs i ++ [[116, 111, 114, 110], Lib.itoa r15.at_] = fatesU fs (i + 1) := fatesU_s2 i0 hr16 ph30
      rw [e50] at ho45
      refine WX.rw (t := 4) (v := .slice A42 ((fatesU fs (i + 1)).length) c43) (congrArg (fun l => Value.slice A42 (List.length l) c43) e50) (k := ?_)
      refine WX.round (i + 1, A42, c43) (by show (fs.length - (i + 1)).toNat < (fs.length - i).toNat; omega) ⟨(by kernel_rfl), (by kernel_rfl), (by kernel_rfl), (by kernel_rfl), (by kernel_rfl), (by kernel_rfl), trivial⟩ ⟨K, ho45, ol48, (by omega), (by omega), (okU_succ i0 hr16 iu (.inl ph30))⟩
    · have ph30 := ne_of_beq_false h30
      refine WC.seq ?_
      refine WC.region ?_
      refine WL.op (d := 28) (.pointer (some ⟨b20, 1, none⟩)) (k := ?_)
      refine WL.load (v := .int .i64 r15.at_) (ld1 (T := 3) (i := 1) hb28) (k := ?_)
      refine WL.op (d := 30) (.bool (r15.at_ != 0)) (k := ?_)
      refine WL.op (d := 27) (.bool (r15.at_ != 0)) (k := ?_)
      refine WL.nil ?_
      refine WX.seqN ?_
      refine WC.cond (b := r15.at_ != 0) (ht := fun h51 => ?_) (hf := fun h51 => ?_)
      · have ph51 := bne_iff_ne.1 h51
        refine WC.seq ?_
        refine WC.region ?_
        refine WL.op (d := 2) (.slice none 0 0) (k := ?_)
        refine WL.op (d := 3) (.bool false) (k := ?_)
        refine WL.nil ?_
        refine WX.seqN ?_
        refine WC.ret ?_
        refine WX.blockR ?_
        refine WX.blockR ?_
        refine WX.seqR ?_
        refine WX.seqR ?_
        refine WX.blockR ?_
        refine WX.seqR ?_
        refine WX.ret (rs := [.tmp 2, .tmp 3]) [.slice none 0 0, .bool false] (.tuple #[.slice none 0 0, .bool false]) ⟨(by kernel_rfl), (by kernel_rfl), trivial⟩ (k := ?_)
        have o_ := okU_bad hr16 (fun k => k.elim ph30 (fun k => by omega))
        have o2_ : ¬ fatesOk fs = true := by rw [o_]; decide
        exact ⟨none, 0, by rw [o_, fatesR, if_neg o2_]; rfl, by rw [fatesR, if_neg o2_]; exact OwAt.nil, K, by simp [blk]⟩
      · have ph51 := of_bne_false h51
        refine WC.seq ?_
        refine WC.region ?_
        refine WL.op (d := 32) (.pointer (some ⟨b20, 0, none⟩)) (k := ?_)
        refine WL.load (v := .int .i64 r15.kind) (ld1 (T := 3) (i := 0) hb28) (k := ?_)
        refine WL.op (d := 34) (.bool (r15.kind == 1)) (k := ?_)
        refine WL.op (d := 31) (.bool (r15.kind == 1)) (k := ?_)
        refine WL.nil ?_
        refine WX.seqN ?_
        refine WC.cond (b := r15.kind == 1) (ht := fun h52 => ?_) (hf := fun h52 => ?_)
        · have ph52 := eq_of_beq h52
          refine WC.region ?_
          refine WL.op (d := 35) (.slice Ao ((fatesU fs i).length) co) (k := ?_)
          refine WL.newF (d := 36) (T := 9) #[.string ⟨#[107, 101, 112, 116]⟩] (fun b => .slice (some ⟨b, 0, none⟩) 1 1) (k := fun b53 w54 g55 hb56 k57 => ?_)
          have z58 := Nat.le_trans K.size g55
          have n59 := OwAt.off_new hb10 g55
          have n60 : b20 ≠ b53 := Nat.ne_of_lt (Nat.lt_of_lt_of_le (lt_of_heap hb28) g55)
          replace hb10 := hb10.adds k57
          replace hb28 := k57.heap hb28 id
          replace K := K.trans (k57.any _)
          refine WL.append (d := 37) (T := 43) (cl := strC) (xs := fatesU fs i) (ys := [[107, 101, 112, 116]]) (c := 1) ekStr hb10 (SlAt.of_lit (ys := [[107, 101, 112, 116]]) ekStr hb56 (by kernel_rfl)) (by simp; omega) (k := fun A61 c62 w63 ho64 k65 n66 => ?_)
          have ol67 := olink_step ol11 K n66
          have n68 := off_step n66 n26 (lt_of_heap hb28)
          replace hb28 := k65.heap hb28 n26
          replace K := K.trans' k65 (fun i hi e => absurd hi (Nat.not_lt.2 (ol11 i e)))
          clear hb10
          refine WL.op (d := 4) (.slice A61 ((fatesU fs i ++ [[107, 101, 112, 116]]).length) c62) (k := ?_)
          refine WL.nil ?_
          refine WX.blockN ?_
          refine WX.blockN ?_
          refine WX.seqN ?_
          refine WC.region ?_
          refine WL.opE (d := 38) (.int .i64 (IntKind.i64.wrap (i + 1))) (v := .int .i64 (i + 1)) (congrArg (Value.int .i64) (IntWalk.i64_in _ (by omega))) (k := ?_)
          refine WL.op (d := 10) (.int .i64 (i + 1)) (k := ?_)
          refine WL.nil ?_
          have e69 : fatesU fs i ++ [[107, 101, 112, 116]] = fatesU fs (i + 1) := fatesU_s1 i0 hr16 ph30 ph52
          rw [e69] at ho64
          refine WX.rw (t := 4) (v := .slice A61 ((fatesU fs (i + 1)).length) c62) (congrArg (fun l => Value.slice A61 (List.length l) c62) e69) (k := ?_)
          refine WX.round (i + 1, A61, c62) (by show (fs.length - (i + 1)).toNat < (fs.length - i).toNat; omega) ⟨(by kernel_rfl), (by kernel_rfl), (by kernel_rfl), (by kernel_rfl), (by kernel_rfl), (by kernel_rfl), trivial⟩ ⟨K, ho64, ol67, (by omega), (by omega), (okU_succ i0 hr16 iu (by right; omega))⟩
        · have ph52 := ne_of_beq_false h52
          refine WC.region ?_
          refine WL.op (d := 14) (.slice Ao ((fatesU fs i).length) co) (k := ?_)
          refine WL.newF (d := 15) (T := 9) #[.string ⟨#[108, 111, 115, 116]⟩] (fun b => .slice (some ⟨b, 0, none⟩) 1 1) (k := fun b70 w71 g72 hb73 k74 => ?_)
          have z75 := Nat.le_trans K.size g72
          have n76 := OwAt.off_new hb10 g72
          have n77 : b20 ≠ b70 := Nat.ne_of_lt (Nat.lt_of_lt_of_le (lt_of_heap hb28) g72)
          replace hb10 := hb10.adds k74
          replace hb28 := k74.heap hb28 id
          replace K := K.trans (k74.any _)
          refine WL.append (d := 16) (T := 43) (cl := strC) (xs := fatesU fs i) (ys := [[108, 111, 115, 116]]) (c := 1) ekStr hb10 (SlAt.of_lit (ys := [[108, 111, 115, 116]]) ekStr hb73 (by kernel_rfl)) (by simp; omega) (k := fun A78 c79 w80 ho81 k82 n83 => ?_)
          have ol84 := olink_step ol11 K n83
          have n85 := off_step n83 n26 (lt_of_heap hb28)
          replace hb28 := k82.heap hb28 n26
          replace K := K.trans' k82 (fun i hi e => absurd hi (Nat.not_lt.2 (ol11 i e)))
          clear hb10
          refine WL.op (d := 4) (.slice A78 ((fatesU fs i ++ [[108, 111, 115, 116]]).length) c79) (k := ?_)
          refine WL.nil ?_
          refine WX.blockN ?_
          refine WX.blockN ?_
          refine WX.seqN ?_
          refine WC.region ?_
          refine WL.opE (d := 38) (.int .i64 (IntKind.i64.wrap (i + 1))) (v := .int .i64 (i + 1)) (congrArg (Value.int .i64) (IntWalk.i64_in _ (by omega))) (k := ?_)
          refine WL.op (d := 10) (.int .i64 (i + 1)) (k := ?_)
          refine WL.nil ?_
          have e86 : fatesU fs i ++ [[108, 111, 115, 116]] = fatesU fs (i + 1) := fatesU_s0 i0 hr16 ph30 ph52
          rw [e86] at ho81
          refine WX.rw (t := 4) (v := .slice A78 ((fatesU fs (i + 1)).length) c79) (congrArg (fun l => Value.slice A78 (List.length l) c79) e86) (k := ?_)
          refine WX.round (i + 1, A78, c79) (by show (fs.length - (i + 1)).toNat < (fs.length - i).toNat; omega) ⟨(by kernel_rfl), (by kernel_rfl), (by kernel_rfl), (by kernel_rfl), (by kernel_rfl), (by kernel_rfl), trivial⟩ ⟨K, ho81, ol84, (by omega), (by omega), (okU_succ i0 hr16 iu (by right; omega))⟩
  · have ph12 := of_decide_eq_false h12
    refine WC.exit ?_
    refine WX.seqE ?_
    refine WX.seqE ?_
    refine WX.blockE ?_
    refine WX.seqN ?_
    refine WC.seq ?_
    refine WC.region ?_
    refine WL.op (d := 39) (.slice Ao ((fatesU fs i).length) co) (k := ?_)
    refine WL.op (d := 2) (.slice Ao ((fatesU fs i).length) co) (k := ?_)
    refine WL.op (d := 3) (.bool true) (k := ?_)
    refine WL.nil ?_
    refine WX.seqN ?_
    refine WC.ret ?_
    refine WX.ret (rs := [.tmp 2, .tmp 3]) [.slice Ao ((fatesU fs i).length) co, .bool true] (.tuple #[.slice Ao ((fatesU fs i).length) co, .bool true]) ⟨(by kernel_rfl), (by kernel_rfl), trivial⟩ (k := ?_)
    have e_ := fatesU_end (fs := fs) (i := i) (by omega)
    have o_ := okU_end (i := i) (by omega) iu
    rw [e_] at hb10 ⊢
    exact ⟨_, _, by rw [o_, fatesR, if_pos o_], by rw [fatesR, if_pos o_]; exact hb10, K, ol11⟩
end Go.Proofs.YtoeinhlmkpgjhaaGreatDoor
namespace Go.Proofs.YtoeinhlmkpgjhaaGreatDoor
open Go.RowKit
set_option linter.unusedVariables false
set_option linter.unusedSimpArgs false
theorem opW_len {o : GOp} (h : o.ok) : (∀ x ∈ opW o, x.length ≤ 120) ∧ (opW o).length ≤ 3 := by
  obtain ⟨h1, h2, h3, h4, h5, h6⟩ := opok_rng h
  have i1 := itoa_le h1 h2
  have i2 := itoa_le h3 h4
  have i3 := itoa_le h5 h6
  have t1 := taskW_le o.task
  unfold opW
  split
  · refine ⟨fun x hx => ?_, by simp⟩
    simp only [List.mem_cons, List.not_mem_nil, or_false] at hx
    rcases hx with rfl | rfl
    · split <;> simp
    · exact t1
  · split
    · refine ⟨fun x hx => ?_, by simp⟩
      simp only [List.mem_cons, List.not_mem_nil, or_false] at hx
      rcases hx with rfl | rfl
      · simp
      · omega
    · split
      · refine ⟨fun x hx => ?_, by simp⟩
        simp only [List.mem_cons, List.not_mem_nil, or_false] at hx
        rcases hx with rfl | rfl | rfl
        · simp
        · omega
        · omega
      · refine ⟨fun x hx => ?_, by simp⟩
        simp only [List.mem_cons, List.not_mem_nil, or_false] at hx
        rcases hx with rfl | rfl
        · simp
        · omega
theorem fatesW_len {fs : List GFate} (h : ∀ f ∈ fs, f.ok) : (∀ x ∈ fatesW fs, x.length ≤ 120) ∧ (fatesW fs).length ≤ 2 * fs.length + 1 := by
  refine ⟨fun x hx => ?_, ?_⟩
  · unfold fatesW at hx
    rcases List.mem_append.1 hx with hx | hx
    · simp only [List.mem_cons, List.not_mem_nil, or_false] at hx
      rw [hx]; simp
    · obtain ⟨f, hf, hx⟩ := List.mem_flatMap.1 hx
      have hk := h f hf
      unfold GFate.ok at hk
      have i1 := itoa_le (n := f.at_) (by omega) (by omega)
      unfold fateW at hx
      split at hx
      · simp only [List.mem_cons, List.not_mem_nil, or_false] at hx
        rcases hx with rfl | rfl
        · simp
        · omega
      · split at hx
        · simp only [List.mem_cons, List.not_mem_nil, or_false] at hx
          rw [hx]; simp
        · simp only [List.mem_cons, List.not_mem_nil, or_false] at hx
          rw [hx]; simp
  · have := fatesU_len fs fs.length
    rw [fatesU_end (Int.le_refl _)] at this; exact this
theorem cmdW_len {p : PCmd} (h : p.ok) : (∀ x ∈ cmdW p, x.length ≤ 120) ∧ (cmdW p).length ≤ 140 := by
  obtain ⟨h1, h2, h3, h4⟩ := h
  unfold PCmd.rngs at h2
  have i1 := itoa_le (n := p.id) (by omega) (by omega)
  have i2 := itoa_le (n := p.work) (by omega) (by omega)
  have i3 := itoa_le (n := p.n) (by omega) (by omega)
  unfold cmdW
  split
  · next k => have := opW_len (h4 k); exact ⟨this.1, by omega⟩
  · repeat' split
    all_goals first
      | (have := fatesW_len h3; exact ⟨this.1, by omega⟩)
      | exact ⟨fun x hx => absurd hx (List.not_mem_nil), by simp⟩
      | (refine ⟨fun x hx => ?_, by simp⟩
         simp only [List.mem_cons, List.not_mem_nil, or_false] at hx
         first
          | (rcases hx with rfl | rfl | rfl <;> first | omega | (simp; done) | (simp; omega))
          | (rcases hx with rfl | rfl <;> first | omega | (simp; done) | (simp; omega))
          | (subst hx; simp))
theorem cmdW_jl {p : PCmd} (h : p.ok) : (joinL 32 (cmdW p)).length ≤ 16940 := by
  have h1 := cmdW_len h
  have h2 := joinL_len (c := 32) h1.1
  have h3 : (cmdW p).length * (120 + 1) ≤ 140 * 121 := Nat.mul_le_mul_right _ h1.2
  omega
theorem lineB_ok {p : PCmd} (h : lineB p = true) : p.ok := by
  unfold lineB at h
  simp only [Bool.and_eq_true] at h
  exact cok_t h.1
theorem lineW_le (p : PCmd) : (lineW p).length ≤ 16940 := by
  unfold lineW
  split
  · next h => exact cmdW_jl (lineB_ok h)
  · simp
theorem lineW_no {p : PCmd} (h : ¬ p.ok) : lineW p = [] := by
  unfold lineW
  rw [if_neg (fun k => h (lineB_ok k))]
theorem lineW_yes {p : PCmd} (h : p.ok) (k : p.kind = 8 → fatesOk p.fs = true) : lineW p = joinL 32 (cmdW p) := by
  have : lineB p = true := by
    unfold lineB
    rw [cok_eqt h]
    by_cases h8 : p.kind = 8
    · have := k h8; simp [this]
    · simp [h8]
  unfold lineW; rw [if_pos this]
theorem lineW_not {p : PCmd} (h8 : p.kind = 8) (k : fatesOk p.fs = false) : lineW p = [] := by
  have : ¬ lineB p = true := by
    unfold lineB
    rw [k, h8]; simp
  unfold lineW; rw [if_neg this]
def taskL (s : List UInt8) : List (List UInt8) := splitL 47 (Lib.cut s [58]).2.1 ++ [(Lib.cut s [58]).1]
def taskT (L : List (List UInt8)) : GTask := ⟨(numV (L.getD 4 []) : Nat), (numV (L.getD 0 []) : Nat), (numV (L.getD 1 []) : Nat), (numV (L.getD 2 []) : Nat), (numV (L.getD 3 []) : Nat)⟩
def taskP (s : List UInt8) : Prop := (Lib.cut s [58]).2.2 = true ∧ (taskL s).length = 5 ∧ (∀ x ∈ taskL s, numP x) ∧ (taskT (taskL s)).ok
instance (s : List UInt8) : Decidable (taskP s) := by unfold taskP; infer_instance
def taskV (s : List UInt8) : GTask := if taskP s then taskT (taskL s) else ⟨0, 0, 0, 0, 0⟩
theorem splitL_le (c : UInt8) : ∀ (l : List UInt8), ∀ x ∈ splitL c l, x.length ≤ l.length
  | [], x, hx => by simp [splitL] at hx; rw [hx]; simp
  | y :: l, x, hx => by
    have ih := splitL_le c l
    unfold splitL at hx
    split at hx
    · rcases List.mem_cons.1 hx with rfl | hx
      · simp
      · have := ih x hx; simp; omega
    · split at hx
      · simp at hx; rw [hx]; simp
      · next z zs hz =>
        rw [hz] at ih
        rcases List.mem_cons.1 hx with rfl | hx
        · have := ih z (List.mem_cons_self ..); simp; omega
        · have := ih x (List.mem_cons_of_mem _ hx); simp; omega
theorem taskL_le {s : List UInt8} {x : List UInt8} (hx : x ∈ taskL s) : x.length ≤ s.length := by
  have h1 := cut_le1 s 58
  have h2 := cut_le2 s 58
  unfold taskL at hx
  rcases List.mem_append.1 hx with hx | hx
  · exact Nat.le_trans (splitL_le 47 _ x hx) h2
  · simp at hx; rw [hx]; exact h1
theorem task_no {s : List UInt8} (h : ¬ taskP s) : taskV s = ⟨0, 0, 0, 0, 0⟩ ∧ decide (taskP s) = false := ⟨if_neg h, decide_eq_false h⟩
theorem task_nolen {s : List UInt8} (h : ¬ (taskL s).length = 5) : ¬ taskP s := fun k => h k.2.1
theorem task_nonum {s : List UInt8} {i : Nat} {x : List UInt8} (hx : (taskL s)[i]? = some x) (h : ¬ numP x) : ¬ taskP s := fun k => h (k.2.2.1 x (List.mem_of_getElem? hx))
theorem task_T {s : List UInt8} {r0 r1 r2 r3 r4 : List UInt8} (h0 : (taskL s)[0]? = some r0) (h1 : (taskL s)[1]? = some r1) (h2 : (taskL s)[2]? = some r2) (h3 : (taskL s)[3]? = some r3) (h4 : (taskL s)[4]? = some r4) : taskT (taskL s) = ⟨(numV r4 : Nat), (numV r0 : Nat), (numV r1 : Nat), (numV r2 : Nat), (numV r3 : Nat)⟩ := by
  unfold taskT
  simp only [List.getD_eq_getElem?_getD, h0, h1, h2, h3, h4, Option.getD_some]
theorem task_all {s : List UInt8} {r0 r1 r2 r3 r4 : List UInt8} (hl : (taskL s).length = 5) (h0 : (taskL s)[0]? = some r0) (h1 : (taskL s)[1]? = some r1) (h2 : (taskL s)[2]? = some r2) (h3 : (taskL s)[3]? = some r3) (h4 : (taskL s)[4]? = some r4)
    (n0 : numP r0) (n1 : numP r1) (n2 : numP r2) (n3 : numP r3) (n4 : numP r4) : ∀ x ∈ taskL s, numP x := by
  intro x hx
  obtain ⟨i, hi, rfl⟩ := List.getElem_of_mem hx
  rcases (show i = 0 ∨ i = 1 ∨ i = 2 ∨ i = 3 ∨ i = 4 by omega) with rfl | rfl | rfl | rfl | rfl
  · rw [List.getElem?_eq_getElem hi] at h0; cases h0; exact n0
  · rw [List.getElem?_eq_getElem hi] at h1; cases h1; exact n1
  · rw [List.getElem?_eq_getElem hi] at h2; cases h2; exact n2
  · rw [List.getElem?_eq_getElem hi] at h3; cases h3; exact n3
  · rw [List.getElem?_eq_getElem hi] at h4; cases h4; exact n4
theorem task_yes {s : List UInt8} {t : GTask} (hc : (Lib.cut s [58]).2.2 = true) (hl : (taskL s).length = 5) (ha : ∀ x ∈ taskL s, numP x) (ht : taskT (taskL s) = t) (hok : t.ok) : taskV s = t ∧ decide (taskP s) = true := by
  have h : taskP s := ⟨hc, hl, ha, ht ▸ hok⟩
  exact ⟨by rw [taskV, if_pos h, ht], decide_eq_true h⟩
end Go.Proofs.YtoeinhlmkpgjhaaGreatDoor
