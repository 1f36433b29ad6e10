/- Sy0, Sy0b, St0, Sc0, Sy1, Sy2, Sc2, Ln5, Ln6, Ln7, Ln8, Ln9, Ln10: one behind the other. -/
import Derived.Test.YtoeinhlmkpgjhaaDoorPb1
namespace Go.Proofs.YtoeinhlmkpgjhaaDoor
open Go.RowKit
set_option linter.unusedVariables false
set_option linter.unusedSimpArgs false
theorem eqOpV (o p : GOp) (w : World) : (binOp .eql 39 o.val p.val).run Tryd.prog w = .ok (.bool (GOp.same o p)) w := eqOp o.kind p.kind o.task.id p.task.id o.task.c p.task.c o.task.d p.task.d o.task.t p.task.t o.task.m p.task.m o.id p.id o.c p.c o.m p.m o.sv p.sv w
theorem same_true {o p : GOp} (h : GOp.same o p = true) : o = p := of_decide_eq_true h
theorem same_false {o p : GOp} (h : GOp.same o p = false) : o ≠ p := of_decide_eq_false h
structure OpB (o : GOp) : Prop where
  kl : 1 ≤ o.kind
  kh : o.kind ≤ 4
  il : 0 ≤ o.id
  ih : o.id ≤ 1023
  cl : 0 ≤ o.c
  ch : o.c ≤ 2147483648
  ml : 0 ≤ o.m
  mh : o.m ≤ 3
  tidl : 0 ≤ o.task.id
  tidh : o.task.id ≤ 1023
  tcl : 0 ≤ o.task.c
  tch : o.task.c ≤ 2147483648
  tdl : 0 ≤ o.task.d
  tdh : o.task.d ≤ 2147483648
  ttl : 0 ≤ o.task.t
  tth : o.task.t ≤ 2147483648
  tml : 0 ≤ o.task.m
  tmh : o.task.m ≤ 15
theorem GOp.ok.b {o : GOp} (h : o.ok) : OpB o := by
  obtain ⟨k, ⟨a, b, c, d, e⟩, sv, i, cc, m⟩ := o
  obtain ⟨h1, h2⟩ := h
  simp only [GOp.bare, GOp.right, GTask.ok] at h1 h2
  by_cases k1 : k = 1
  · simp only [k1, if_true, GOp.mk.injEq, GTask.mk.injEq] at h1 h2
    constructor <;> simp only <;> omega
  by_cases k2 : k = 2
  · simp [k2] at h1 h2
    constructor <;> simp only <;> omega
  by_cases k3 : k = 3
  · simp [k3] at h1 h2
    constructor <;> simp only <;> omega
  by_cases k4 : k = 4
  · simp [k4] at h1 h2
    constructor <;> simp only <;> omega
  · simp [k1, k2, k3, k4] at h2
def GOp.tl (o : GOp) : List UInt8 :=
  if o.kind = 1 then encNum o.task.id.toNat ++ (encNum o.task.c.toNat ++ (encNum o.task.d.toNat ++ (encNum o.task.t.toNat ++ (encNum o.task.m.toNat ++ encFlag o.sv))))
  else if o.kind = 2 then encNum o.id.toNat
  else if o.kind = 3 then encNum o.id.toNat ++ encNum o.c.toNat
  else encNum o.m.toNat
end Go.Proofs.YtoeinhlmkpgjhaaDoor
namespace Go.Proofs.YtoeinhlmkpgjhaaDoor
open Go.RowKit
set_option linter.unusedVariables false
set_option linter.unusedSimpArgs false
end Go.Proofs.YtoeinhlmkpgjhaaDoor
namespace Go.Proofs.YtoeinhlmkpgjhaaDoor
open Go.RowKit
set_option linter.unusedVariables false
set_option linter.unusedSimpArgs false
structure GRow where
  task : GTask
  sv : Bool
deriving DecidableEq
structure GTable where
  rows : List GRow
  mode : Int
deriving DecidableEq
abbrev GRow.val (r : GRow) : Value := .agg #[.int .i64 r.task.id, .int .i64 r.task.c, .int .i64 r.task.d, .int .i64 r.task.t, .int .i64 r.task.m, .bool r.sv]
def GRow.ok (r : GRow) : Prop := r.task.ok ∧ (r.sv = true → r.task.d = r.task.t)
def upTo (rows : List GRow) (n : Nat) : Prop := ∀ i r, i < n → rows[i]? = some r → r.ok ∧ ∀ j q, j + 1 = i → rows[j]? = some q → q.task.id < r.task.id
def GTable.ok (t : GTable) : Prop := upTo t.rows t.rows.length ∧ t.rows.length ≤ 16 ∧ 0 ≤ t.mode ∧ t.mode ≤ 3
def GRow.zero : GRow := ⟨⟨0, 0, 0, 0, 0⟩, false⟩
end Go.Proofs.YtoeinhlmkpgjhaaDoor
namespace Go.Proofs.YtoeinhlmkpgjhaaDoor
open Go.RowKit
set_option linter.unusedVariables false
set_option linter.unusedSimpArgs false
structure GFate where
  kind : Int
  at_ : Int
deriving DecidableEq
abbrev fateC (f : GFate) : List Value := [.int .i64 f.kind, .int .i64 f.at_]
abbrev GFate.val (f : GFate) : Value := .agg #[.int .i64 f.kind, .int .i64 f.at_]
theorem ekFate : EK fateC 2 89 := EK.of (z := .agg #[.int .i64 0, .int .i64 0]) (bt := 16) (fun _ => rfl) (fun _ => rfl) (by decide) (by kernel_rfl) rfl (by decide)
structure PCmd where
  kind : Int
  op : GOp
  id : Int
  work : Int
  n : Int
  fs : List GFate
deriving DecidableEq
instance : Inhabited PCmd := ⟨⟨0, GOp.zero, 0, 0, 0, []⟩⟩
structure GCmd where
  p : PCmd
  A : Option Addr
  cap : Nat
abbrev cmdC (c : GCmd) : List Value := [.int .i64 c.p.kind, .int .i64 c.p.op.kind, .int .i64 c.p.op.task.id, .int .i64 c.p.op.task.c, .int .i64 c.p.op.task.d, .int .i64 c.p.op.task.t, .int .i64 c.p.op.task.m, .bool c.p.op.sv, .int .i64 c.p.op.id, .int .i64 c.p.op.c, .int .i64 c.p.op.m, .int .i64 c.p.id, .int .i64 c.p.work, .int .i64 c.p.n, .slice c.A c.p.fs.length c.cap]
abbrev GCmd.val (c : GCmd) : Value := .agg #[.int .i64 c.p.kind, .int .i64 c.p.op.kind, .int .i64 c.p.op.task.id, .int .i64 c.p.op.task.c, .int .i64 c.p.op.task.d, .int .i64 c.p.op.task.t, .int .i64 c.p.op.task.m, .bool c.p.op.sv, .int .i64 c.p.op.id, .int .i64 c.p.op.c, .int .i64 c.p.op.m, .int .i64 c.p.id, .int .i64 c.p.work, .int .i64 c.p.n, .slice c.A c.p.fs.length c.cap]
theorem ekCmd : EK cmdC 15 42 := EK.of (z := .agg #[.int .i64 0, .int .i64 0, .int .i64 0, .int .i64 0, .int .i64 0, .int .i64 0, .int .i64 0, .bool false, .int .i64 0, .int .i64 0, .int .i64 0, .int .i64 0, .int .i64 0, .int .i64 0, .slice none 0 0]) (bt := 136) (fun _ => rfl) (fun _ => rfl) (by decide) (by kernel_rfl) rfl (by decide)
theorem eqFateV (t u : GFate) (w : World) : (binOp .eql 89 t.val u.val).run Tryd.prog w = .ok (.bool (decide (t = u))) w := by
  obtain ⟨a, b⟩ := t
  obtain ⟨a', b'⟩ := u
  have hs : decide ((⟨a, b⟩ : GFate) = ⟨a', b'⟩) = decide (a = a' ∧ b = b') := by simp only [GFate.mk.injEq]
  rw [hs]; clear hs
  simp [go_sem]
  repeat' split
  all_goals simp_all
theorem neqFateV (t u : GFate) (w : World) : (binOp .neq 89 t.val u.val).run Tryd.prog w = .ok (.bool (!(decide (t = u)))) w := by
  have h := eqFateV t u w
  rw [run_eql_struct] at h
  rw [run_neq_struct]
  generalize (Op.equalIn 10000 89 _ _).run Tryd.prog w = r at h ⊢
  cases r with
  | ok v w' => simp only [Result.andThen_ok, Result.ok.injEq, Value.bool.injEq] at h ⊢; exact ⟨by rw [h.1], h.2⟩
  | halt x w' => simp [Result.andThen] at h
def GFate.ok (f : GFate) : Prop := 0 ≤ f.kind ∧ f.kind ≤ 2 ∧ 0 ≤ f.at_ ∧ f.at_ ≤ 64
def PCmd.bare (c : PCmd) : PCmd :=
  if c.kind = 1 then ⟨1, c.op, 0, 0, 0, []⟩
  else if c.kind = 2 ∨ c.kind = 3 then ⟨c.kind, GOp.zero, c.id, c.work, 0, []⟩
  else if c.kind = 4 ∨ c.kind = 7 then ⟨c.kind, GOp.zero, 0, 0, c.n, []⟩
  else if c.kind = 5 then ⟨5, GOp.zero, c.id, 0, 0, []⟩
  else if c.kind = 8 then ⟨8, GOp.zero, 0, 0, 0, c.fs⟩
  else ⟨c.kind, GOp.zero, 0, 0, 0, []⟩
def PCmd.rngs (c : PCmd) : Prop := 1 ≤ c.kind ∧ c.kind ≤ 9 ∧ 0 ≤ c.id ∧ c.id ≤ 1023 ∧ 0 ≤ c.work ∧ c.work ≤ 2147483648 ∧ 0 ≤ c.n ∧ c.n ≤ 1048576 ∧ c.fs.length ≤ 64
def PCmd.ok (c : PCmd) : Prop := c = c.bare ∧ c.rngs ∧ (∀ f ∈ c.fs, f.ok) ∧ (c.kind = 1 → c.op.ok)
noncomputable def cokB (c : PCmd) : Bool := @decide c.ok (Classical.propDecidable _)
theorem cok_t {t : PCmd} (h : cokB t = true) : t.ok := @of_decide_eq_true _ (Classical.propDecidable _) h
theorem cok_f {t : PCmd} (h : cokB t = false) : ¬ t.ok := @of_decide_eq_false _ (Classical.propDecidable _) h
theorem cok_eqt {t : PCmd} (h : t.ok) : cokB t = true := @decide_eq_true _ (Classical.propDecidable _) h
theorem cok_eqf {t : PCmd} (h : ¬ t.ok) : cokB t = false := @decide_eq_false _ (Classical.propDecidable _) h
def GCmd.bare (c : GCmd) : GCmd := ⟨c.p.bare, if c.p.kind = 8 then c.A else none, if c.p.kind = 8 then c.cap else 0⟩
theorem bare_sl {c : GCmd} {w : World} (h : SlAt fateC 2 89 c.A c.p.fs w) : SlAt fateC 2 89 c.bare.A c.bare.p.fs w := by
  unfold GCmd.bare PCmd.bare
  by_cases h8 : c.p.kind = 8
  · simp only [h8]; simpa using h
  · refine .inl ?_
    simp only
    repeat' split
    all_goals first | rfl | (exfalso; omega)
theorem bare_le (c : GCmd) : (GCmd.bare c).p.fs.length ≤ c.p.fs.length := by
  unfold GCmd.bare PCmd.bare; simp only; repeat' split
  all_goals simp
def encFate (f : GFate) : List UInt8 := encNum f.kind.toNat ++ encNum f.at_.toNat
def PCmd.tl (c : PCmd) : List UInt8 :=
  if c.kind = 1 then encText c.op.enc
  else if c.kind = 2 ∨ c.kind = 3 then encNum c.id.toNat ++ encNum c.work.toNat
  else if c.kind = 4 ∨ c.kind = 7 then encNum c.n.toNat
  else if c.kind = 5 then encNum c.id.toNat
  else if c.kind = 8 then encNum c.fs.length ++ c.fs.flatMap encFate
  else []
def PCmd.enc (c : PCmd) : List UInt8 := encNum c.kind.toNat ++ c.tl
theorem cenc_pos (c : PCmd) : 0 < c.enc.length := by
  unfold PCmd.enc encNum; simp
def cencs (xs : List PCmd) : List UInt8 := xs.flatMap PCmd.enc
def Parsed (l : List UInt8) (xs : List PCmd) (r : List UInt8) : Prop := (∀ c ∈ xs, c.ok) ∧ l = cencs xs ++ r ∧ (∀ c t, PCmd.ok c → r = c.enc ++ t → False)
theorem Parsed.of {xs : List PCmd} (h : ∀ c ∈ xs, c.ok) : Parsed (cencs xs) xs [] := ⟨h, by simp, fun c t hc e => by
  have := cenc_pos c
  have h2 := congrArg List.length e
  simp at h2; omega⟩
theorem no_cmd (t : List UInt8) : ∀ (c : PCmd) u, c.ok → 1 :: 0 :: t = c.enc ++ u → False := fun c u hc e => by
  obtain ⟨hb, ⟨k1, k9, _⟩, _⟩ := hc
  have h9 : c.kind.toNat < 256 := by omega
  unfold PCmd.enc encNum at e
  have hb1 : beb c.kind.toNat = [UInt8.ofNat (c.kind.toNat % 256)] := by
    rw [beb_pos (by omega), show c.kind.toNat / 256 = 0 by omega, beb_zero]; rfl
  rw [hb1] at e
  simp only [List.cons_append, List.nil_append, List.cons.injEq] at e
  have := congrArg UInt8.toNat e.2.1
  rw [u8_toNat_ofNat] at this
  simp at this; omega
theorem Parsed.more {xs : List PCmd} (h : ∀ c ∈ xs, c.ok) (b : UInt8) : Parsed (cencs xs ++ [1, 0, b]) xs [1, 0, b] := ⟨h, rfl, fun c t hc e => no_cmd _ c t hc e⟩
instance (f : GFate) : Decidable f.ok := by unfold GFate.ok; infer_instance
theorem wrong_t {f : GFate} (h : ¬ f.ok) : true = !(decide f.ok) := by rw [decide_eq_false h]; rfl
theorem wrong_e {f : GFate} (h : 0 ≤ f.kind ∧ f.kind ≤ 2) : (!(decide (0 ≤ f.at_ ∧ f.at_ ≤ 64))) = !(decide f.ok) := by
  congr 1
  exact decide_eq_decide.2 ⟨fun k => ⟨h.1, h.2, k.1, k.2⟩, fun k => ⟨k.2.2.1, k.2.2.2⟩⟩
def okFs (fs : List GFate) : Bool := fs.all fun f => decide f.ok
theorem okFs_t {fs : List GFate} (h : okFs fs = true) : ∀ f ∈ fs, f.ok := fun f hf => by
  have := List.all_eq_true.1 h f hf; exact of_decide_eq_true this
theorem okFs_f {fs : List GFate} (h : okFs fs = false) : ¬ ∀ f ∈ fs, f.ok := fun hh => by
  have : okFs fs = true := List.all_eq_true.2 (fun f hf => decide_eq_true (hh f hf))
  rw [this] at h; cases h
def upF (fs : List GFate) (i : Int) : Prop := ∀ (k : Nat) (f : GFate), (k : Int) < i → fs[k]? = some f → f.ok
theorem upF_zero (fs : List GFate) : upF fs 0 := fun k f h => by omega
theorem upF_succ {fs : List GFate} {i : Int} {r : GFate} (h0 : 0 ≤ i) (h : upF fs i) (hr : fs[i.toNat]? = some r) (ho : r.ok) : upF fs (i + 1) := fun k f hk hf => by
  by_cases e : (k : Int) = i
  · rw [show i.toNat = k by omega, hf] at hr; cases hr; exact ho
  · exact h k f (by omega) hf
theorem upF_end {fs : List GFate} {i : Int} (h1 : (fs.length : Int) ≤ i) (h : upF fs i) : ∀ f ∈ fs, f.ok := fun f hf => by
  obtain ⟨k, hk, e⟩ := List.getElem_of_mem hf
  exact h k f (by omega) (by rw [List.getElem?_eq_getElem hk, e])
theorem okFs_end {fs : List GFate} {i : Int} (h1 : (fs.length : Int) ≤ i) (h : upF fs i) : okFs fs = true := List.all_eq_true.2 fun f hf => decide_eq_true (upF_end h1 h f hf)
theorem okFs_bad {fs : List GFate} {i : Nat} {r : GFate} (hr : fs[i]? = some r) (h : ¬ r.ok) : okFs fs = false := Bool.eq_false_iff.2 fun e => h (okFs_t e r (List.mem_of_getElem? hr))
section
variable {a b c : PCmd}
theorem same_ne (h : a ≠ b) : false = decide (a = b) := (decide_eq_false h).symm
theorem same_fin (h1 : a.kind = b.kind) (h2 : GOp.same a.op b.op = true) (h3 : a.id = b.id) (h4 : a.work = b.work) (h5 : a.n = b.n) : decide (a.fs = b.fs) = decide (a = b) := by
  have h2 := same_true h2
  obtain ⟨k, o, i, w, n, fs⟩ := a
  obtain ⟨k', o', i', w', n', fs'⟩ := b
  simp only at *
  subst h1 h2 h3 h4 h5
  simp
theorem same_fin2 (h1 : a.kind = b.kind) (h2 : GOp.same a.op b.op = true) (h3 : a.id = b.id) (h4 : a.work = b.work) (h5 : a.fs = b.fs) : (a.n == b.n) = decide (a = b) := by
  have h2 := same_true h2
  obtain ⟨k, o, i, w, n, fs⟩ := a
  obtain ⟨k', o', i', w', n', fs'⟩ := b
  simp only at *
  subst h1 h2 h3 h4 h5
  rw [Bool.eq_iff_iff]; simp
theorem same_op (h : GOp.same a.op b.op = false) : false = decide (a = b) := same_ne fun e => same_false h (by rw [e])
theorem cok_ne (h : c ≠ c.bare) : false = cokB c := (cok_eqf fun k => h k.1).symm
theorem cok_rng (h : ¬ c.rngs) : false = cokB c := (cok_eqf fun k => h k.2.1).symm
theorem cok_fs (h : ¬ ∀ f ∈ c.fs, f.ok) : false = cokB c := (cok_eqf fun k => h k.2.2.1).symm
theorem cok_op (h : c = c.bare) (hk : c.kind = 1) : decide c.op.ok = cokB c := by
  have h2 : c.rngs ∧ ∀ f ∈ c.fs, f.ok := by
    rw [h, PCmd.bare, if_pos hk]; simp [PCmd.rngs]
  by_cases ho : c.op.ok
  · rw [cok_eqt ⟨h, h2.1, h2.2, fun _ => ho⟩]; exact decide_eq_true ho
  · rw [cok_eqf fun k => ho (k.2.2.2 hk)]; exact decide_eq_false ho
theorem cok_end (h : c = c.bare) (hr : c.rngs) (hk : c.kind ≠ 1) : okFs c.fs = cokB c := by
  cases e : okFs c.fs with
  | true => exact (cok_eqt ⟨h, hr, okFs_t e, fun k => absurd k hk⟩).symm
  | false => exact cok_fs (okFs_f e)
end
def Fts (n : Nat) (xs : List GCmd) (w : World) : Prop := ∀ c ∈ xs, SlAt fateC 2 89 c.A c.p.fs w ∧ c.p.fs.length ≤ c.cap ∧ c.p.fs.length ≤ n
section
variable {n : Nat} {xs ys : List GCmd} {w w' : World} {i : Nat} {r : GCmd}
theorem fts_mem (h : Fts n xs w) (hr : xs[i]? = some r) : SlAt fateC 2 89 r.A r.p.fs w ∧ r.p.fs.length ≤ r.cap ∧ r.p.fs.length ≤ n := h r (List.mem_of_getElem? hr)
theorem Fts.le {m : Nat} (h : Fts n xs w) (hm : n ≤ m) : Fts m xs w := fun c hc => ⟨(h c hc).1, (h c hc).2.1, Nat.le_trans (h c hc).2.2 hm⟩
theorem Fts.adds (h : Fts n xs w) (k : Keeps (fun _ => False) w w') : Fts n xs w' := fun c hc => ⟨(h c hc).1.adds k, (h c hc).2⟩
end
def FtsO (n : Nat) (xs : List GCmd) (w : World) : Prop := ∀ c ∈ xs, OwAt fateC 2 89 c.A c.cap c.p.fs w ∧ c.p.fs.length ≤ n
section
variable {n : Nat} {xs ys : List GCmd} {w w' : World} {i : Nat} {r : GCmd} {S : Nat → Prop} {b : Nat}
theorem FtsO.fts (h : FtsO n xs w) : Fts n xs w := fun c hc => ⟨(h c hc).1.sl ekFate, SlAt.cell (h c hc).1, (h c hc).2⟩
theorem FtsO.keeps (h : FtsO n xs w) (k : Keeps S w w') (hn : ∀ i cur, w.heap[i]? = some (.cells cur 89 (0, 0)) → ¬ S i) : FtsO n xs w' := fun c hc => ⟨(h c hc).1.keeps k fun i hi => by
  rcases (h c hc).1.block with ⟨e, _⟩ | ⟨g, cur, e, hg, _⟩
  · rw [e] at hi; simp [blk] at hi
  · rw [e] at hi; simp only [blk, Option.map_some, Option.some.injEq] at hi; subst hi; exact hn _ _ hg, (h c hc).2⟩
theorem FtsO.adds (h : FtsO n xs w) (k : Keeps (fun _ => False) w w') : FtsO n xs w' := h.keeps k fun _ _ _ => id
theorem FtsO.nil : FtsO n [] w := fun c hc => by simp at hc
theorem FtsO.snoc (h : FtsO n xs w) (hr : OwAt fateC 2 89 r.A r.cap r.p.fs w) (hl : r.p.fs.length ≤ n) : FtsO n (xs ++ [r]) w := fun c hc => by
  rcases List.mem_append.1 hc with hc | hc
  · exact h c hc
  · rw [List.mem_singleton.1 hc]; exact ⟨hr, hl⟩
end
theorem mapU_end {xs ys : List GCmd} {i : Int} (h1 : (xs.length : Int) ≤ i) (hl : (xs.length : Int) = ys.length) (h : eqU (xs.map GCmd.p) (ys.map GCmd.p) i) : true = decide (xs.map GCmd.p = ys.map GCmd.p) := eqU_end (by simpa using h1) (by simpa using hl) h
theorem mapU_len {xs ys : List GCmd} (h : (xs.length : Int) ≠ ys.length) : false = decide (xs.map GCmd.p = ys.map GCmd.p) := eqU_len (by simpa using h)
theorem map_get {xs : List GCmd} {i : Nat} {r : GCmd} (h : xs[i]? = some r) : (xs.map GCmd.p)[i]? = some r.p := by rw [List.getElem?_map, h]; rfl
end Go.Proofs.YtoeinhlmkpgjhaaDoor
namespace Go.Proofs.YtoeinhlmkpgjhaaDoor
open Go.RowKit
set_option linter.unusedVariables false
set_option linter.unusedSimpArgs false
end Go.Proofs.YtoeinhlmkpgjhaaDoor
namespace Go.Proofs.YtoeinhlmkpgjhaaDoor
open Go.RowKit
set_option linter.unusedVariables false
set_option linter.unusedSimpArgs false
end Go.Proofs.YtoeinhlmkpgjhaaDoor
namespace Go.Proofs.YtoeinhlmkpgjhaaDoor
open Go.RowKit
set_option linter.unusedVariables false
set_option linter.unusedSimpArgs false
set_option maxRecDepth 100000 in
theorem sEqualF_c {A B : Option Addr} {cp cq : Nat} {xs ys : List GFate} {w : World} (hA : SlAt fateC 2 89 A xs w) (hB : SlAt fateC 2 89 B ys w) (hn : xs.length ≤ 1000000000) (hm : ys.length ≤ 1000000000) : Calls Tryd.prog 56 #[.slice A xs.length cp, .slice B ys.length cq] w fun e w' => e = .returned (.bool (decide (xs = ys))) ∧ Adds w w' := by
  have K : Keeps (fun _ => False) w w := Keeps.refl _ w
  refine Calls.start Tryd.func56 rfl (by kernel_rfl) ?_
  refine WC.seq ?_
  refine WC.region ?_
  refine WL.op (d := 4) (.bool false) (k := ?_)
  refine WL.nil ?_
  refine WX.seqN ?_
  refine WC.seq ?_
  refine WC.seq ?_
  refine WC.region ?_
  refine WL.op (d := 6) (.slice A xs.length cp) (k := ?_)
  refine WL.op (d := 7) (.int .i64 (xs.length : Int)) (k := ?_)
  refine WL.op (d := 8) (.slice B ys.length cq) (k := ?_)
  refine WL.op (d := 9) (.int .i64 (ys.length : Int)) (k := ?_)
  refine WL.op (d := 10) (.bool ((xs.length : Int) != (ys.length : Int))) (k := ?_)
  refine WL.nil ?_
  refine WX.seqN ?_
  refine WC.cond (b := (xs.length : Int) != (ys.length : Int)) (ht := fun h1 => ?_) (hf := fun h1 => ?_)
  · have ph1 := bne_iff_ne.1 h1
    refine WC.seq ?_
    refine WC.region ?_
    refine WL.op (d := 4) (.bool false) (k := ?_)
    refine WL.nil ?_
    refine WX.seqN ?_
    refine WC.ret ?_
    refine WX.seqR ?_
    refine WX.ret (rs := [.tmp 4]) [.bool false] (.bool false) ⟨(by kernel_rfl), trivial⟩ (k := ?_)
    exact ⟨ret_bool (eqU_len (by omega)), K⟩
  · have ph1 := of_bne_false h1
    refine WC.skip ?_
    refine WX.seqN ?_
    refine WC.seq ?_
    refine WC.seq ?_
    refine WC.region ?_
    refine WL.op (d := 11) (.slice A xs.length cp) (k := ?_)
    refine WL.op (d := 12) (.int .i64 (xs.length : Int)) (k := ?_)
    refine WL.op (d := 13) (.int .i64 0) (k := ?_)
    refine WL.nil ?_
    refine WX.seqN ?_
    refine WC.block ?_
    refine WC.loop (ι := Int) (fun (i : Int) => [(0, .slice A xs.length cp), (1, .slice B ys.length cq), (6, .slice A xs.length cp), (7, .int .i64 (xs.length : Int)), (8, .slice B ys.length cq), (9, .int .i64 (ys.length : Int)), (10, .bool ((xs.length : Int) != (ys.length : Int))), (11, .slice A xs.length cp), (12, .int .i64 (xs.length : Int)), (13, .int .i64 i)]) (fun (i : Int) (w_ : World) => (Keeps (fun _ => False) w w_) ∧ (0 ≤ i) ∧ (i ≤ xs.length) ∧ (eqU xs ys i)) (fun (i : Int) => (xs.length - i).toNat) 0 ⟨(by kernel_rfl), (by kernel_rfl), (by kernel_rfl), (by kernel_rfl), (by kernel_rfl), (by kernel_rfl), (by kernel_rfl), (by kernel_rfl), (by kernel_rfl), (by kernel_rfl), trivial⟩ ⟨K, Int.le_refl 0, (by omega), eqU_zero _ _⟩ ?_
    rintro i w2 ⟨K, i0, i1, iu⟩
    refine WC.seq ?_
    refine WC.region ?_
    refine WL.op (d := 14) (.bool (decide (i < (xs.length : Int)))) (k := ?_)
    refine WL.nil ?_
    refine WX.seqN ?_
    refine WC.seq ?_
    refine WC.cond (b := decide (i < (xs.length : Int))) (ht := fun h3 => ?_) (hf := fun h3 => ?_)
    · have ph3 := of_decide_eq_true h3
      refine WC.skip ?_
      refine WX.seqN ?_
      refine WC.seq ?_
      refine WC.block ?_
      refine WC.seq ?_
      refine WC.region ?_
      refine WL.op (d := 15) (.int .i64 i) (k := ?_)
      refine WL.op (d := 5) (.int .i64 i) (k := ?_)
      refine WL.nil ?_
      refine WX.seqN ?_
      refine WC.seq ?_
      refine WC.quiet (k := ?_)
      refine WQ.op (d := 16) (.slice A xs.length cp) (k := ?_)
      refine WQ.op (d := 17) (.int .i64 i) (k := ?_)
      obtain ⟨b4, o5, r6, hr7, hA8, he9⟩ := SlAt.at hA (i := i) (by omega) (by omega)
      refine WQ.rw (t := 16) (v := .slice (some ⟨b4, o5, none⟩) xs.length cp) (congrArg (fun a => Value.slice a xs.length cp) hA8) (k := ?_)
      refine WQ.idx (T := 40) (E := 89) (m := 2) (b := b4) (o := o5) (len := xs.length) (cap := cp) (i := i) (kk := .i64) (d := 18) (by omega) (by omega) (k := ?_)
      refine WQ.rw (t := 16) (v := .slice A xs.length cp) (congrArg (fun a => Value.slice a xs.length cp) (Eq.symm hA8)) (k := ?_)
      refine WQ.load (v := GFate.val r6) (fun w_ k_ => ((he9.adds K).adds k_).ldW (T := 89)) (k := ?_)
      refine WQ.op (d := 20) (.slice B ys.length cq) (k := ?_)
      refine WQ.op (d := 21) (.int .i64 i) (k := ?_)
      obtain ⟨b10, o11, r12, hr13, hA14, he15⟩ := SlAt.at hB (i := i) (by omega) (by omega)
      refine WQ.rw (t := 20) (v := .slice (some ⟨b10, o11, none⟩) ys.length cq) (congrArg (fun a => Value.slice a ys.length cq) hA14) (k := ?_)
      refine WQ.idx (T := 40) (E := 89) (m := 2) (b := b10) (o := o11) (len := ys.length) (cap := cq) (i := i) (kk := .i64) (d := 22) (by omega) (by omega) (k := ?_)
      refine WQ.rw (t := 20) (v := .slice B ys.length cq) (congrArg (fun a => Value.slice a ys.length cq) (Eq.symm hA14)) (k := ?_)
      refine WQ.load (v := GFate.val r12) (fun w_ k_ => ((he15.adds K).adds k_).ldW (T := 89)) (k := ?_)
      refine WQ.bin (d := 24) (v := .bool (!(decide (r6 = r12)))) (fun w_ => neqFateV r6 r12 w_) (k := ?_)
      refine WQ.nilX (fun w16 k17 => ?_)
      replace K := K.trans (k17.any _)
      refine WX.seqN ?_
      refine WC.cond (b := !(decide (r6 = r12))) (ht := fun h18 => ?_) (hf := fun h18 => ?_)
      · have h19 : (decide (r6 = r12)) = false := Bool.not_inj (y := false) h18
        have ph19 := of_decide_eq_false h19
        refine WC.seq ?_
        refine WC.region ?_
        refine WL.op (d := 4) (.bool false) (k := ?_)
        refine WL.nil ?_
        refine WX.seqN ?_
        refine WC.ret ?_
        refine WX.blockR ?_
        refine WX.seqR ?_
        refine WX.seqR ?_
        refine WX.blockR ?_
        refine WX.seqR ?_
        refine WX.ret (rs := [.tmp 4]) [.bool false] (.bool false) ⟨(by kernel_rfl), trivial⟩ (k := ?_)
        exact ⟨ret_bool (eqU_bad hr7 hr13 ph19), K⟩
      · have h20 : (decide (r6 = r12)) = true := Bool.not_inj (y := true) h18
        have ph20 := of_decide_eq_true h20
        refine WC.skip ?_
        refine WX.blockN ?_
        refine WX.seqN ?_
        refine WC.region ?_
        refine WL.opE (d := 25) (.int .i64 (IntKind.i64.wrap (i + 1))) (v := .int .i64 (i + 1)) (congrArg (Value.int .i64) (IntWalk.i64_in _ (by omega))) (k := ?_)
        refine WL.op (d := 13) (.int .i64 (i + 1)) (k := ?_)
        refine WL.nil ?_
        refine WX.round (i + 1) (by show (xs.length - (i + 1)).toNat < (xs.length - i).toNat; omega) ⟨(by kernel_rfl), (by kernel_rfl), (by kernel_rfl), (by kernel_rfl), (by kernel_rfl), (by kernel_rfl), (by kernel_rfl), (by kernel_rfl), (by kernel_rfl), (by kernel_rfl), trivial⟩ ⟨K, (by omega), (by omega), (eqU_succ i0 iu hr7 hr13 ph20)⟩
    · have ph3 := of_decide_eq_false h3
      refine WC.exit ?_
      refine WX.seqE ?_
      refine WX.seqE ?_
      refine WX.blockE ?_
      refine WX.seqN ?_
      refine WC.seq ?_
      refine WC.region ?_
      refine WL.op (d := 4) (.bool true) (k := ?_)
      refine WL.nil ?_
      refine WX.seqN ?_
      refine WC.ret ?_
      refine WX.ret (rs := [.tmp 4]) [.bool true] (.bool true) ⟨(by kernel_rfl), trivial⟩ (k := ?_)
      exact ⟨ret_bool (eqU_end (i := i) (by omega) (by omega) iu), K⟩
set_option maxRecDepth 100000 in
theorem sWithin_c (x y : Int) (w : World) : Calls Tryd.prog 42 #[.int .i64 x, .int .i64 y] w fun e w' => e = .returned (.bool (decide (0 ≤ x ∧ x ≤ y))) ∧ Adds w w' := by
  have K : Keeps (fun _ => False) w w := Keeps.refl _ w
  refine Calls.start Tryd.func42 rfl (by kernel_rfl) ?_
  refine WC.seq ?_
  refine WC.region ?_
  refine WL.op (d := 4) (.bool false) (k := ?_)
  refine WL.nil ?_
  refine WX.seqN ?_
  refine WC.seq ?_
  refine WC.region ?_
  refine WL.op (d := 5) (.int .i64 x) (k := ?_)
  refine WL.op (d := 6) (.bool (decide (x ≥ 0))) (k := ?_)
  refine WL.op (d := 7) (.bool (decide (x ≥ 0))) (k := ?_)
  refine bsplit (decide (x ≥ 0)) (fun h1 => ?_) (fun h1 => ?_)
  · have ph1 := of_decide_eq_true h1
    refine WL.rw (t := 7) (v := .bool true) (congrArg Value.bool h1) (k := ?_)
    refine WL.op (d := 8) (.int .i64 x) (k := ?_)
    refine WL.op (d := 9) (.int .i64 y) (k := ?_)
    refine WL.op (d := 10) (.bool (decide (x ≤ y))) (k := ?_)
    refine WL.op (d := 11) (.bool (decide (x ≤ y))) (k := ?_)
    refine WL.op (d := 4) (.bool (decide (x ≤ y))) (k := ?_)
    refine WL.nil ?_
    refine WX.seqN ?_
    refine WC.ret ?_
    refine WX.ret (rs := [.tmp 4]) [.bool (decide (x ≤ y))] (.bool (decide (x ≤ y))) ⟨(by kernel_rfl), trivial⟩ (k := ?_)
    exact ⟨ret_bool (by rw [Bool.eq_iff_iff]; simp only [eq_self, decide_eq_true_eq, Bool.false_eq_true, Bool.true_eq_false, false_iff, true_iff, iff_true, iff_false, Bool.not_eq_true', decide_eq_false_iff_not, GFate.ok]; omega), K⟩
  · have ph1 := of_decide_eq_false h1
    refine WL.rw (t := 7) (v := .bool false) (congrArg Value.bool h1) (k := ?_)
    refine WL.skip (d := 8) (k := ?_)
    refine WL.skip (d := 9) (k := ?_)
    refine WL.skip (d := 10) (k := ?_)
    refine WL.op (d := 11) (.bool false) (k := ?_)
    refine WL.op (d := 4) (.bool false) (k := ?_)
    refine WL.nil ?_
    refine WX.seqN ?_
    refine WC.ret ?_
    refine WX.ret (rs := [.tmp 4]) [.bool false] (.bool false) ⟨(by kernel_rfl), trivial⟩ (k := ?_)
    exact ⟨ret_bool (by rw [Bool.eq_iff_iff]; simp only [eq_self, decide_eq_true_eq, Bool.false_eq_true, Bool.true_eq_false, false_iff, true_iff, iff_true, iff_false, Bool.not_eq_true', decide_eq_false_iff_not, GFate.ok]; omega), K⟩
set_option maxRecDepth 100000 in
theorem sCheck1_c (f : GFate) (w : World) : Calls Tryd.prog 41 #[f.val] w fun e w' => e = .returned (.bool (!(decide f.ok))) ∧ Adds w w' := by
  have K : Keeps (fun _ => False) w w := Keeps.refl _ w
  refine Calls.start Tryd.func41 rfl (by kernel_rfl) ?_
  refine WC.seq ?_
  refine WC.region ?_
  refine WL.new (d := 1) (T := 89) (Value.cells (GFate.val f)) (k := fun b1 w2 g3 hb4 k5 => ?_)
  have z6 := Nat.le_trans K.size g3
  replace K := K.trans (k5.any _)
  refine WL.op (d := 2) (.bool false) (k := ?_)
  refine WL.nil ?_
  refine WX.seqN ?_
  refine WC.seq ?_
  refine WC.region ?_
  refine WL.op (d := 3) (.pointer (some ⟨b1, 0, none⟩)) (k := ?_)
  refine WL.load (v := .int .i64 f.kind) (ld1 (T := 3) (i := 0) hb4) (k := ?_)
  refine WL.callG (d := 5) (f := 42) (args := #[.int .i64 f.kind, .int .i64 2]) (sWithin_c f.kind 2 w2) (k := fun e_ w7 h_ => ⟨.bool (decide (0 ≤ f.kind ∧ f.kind ≤ 2)), h_.1, ?_⟩)
  have k8 := h_.2; clear h_
  replace hb4 := k8.heap hb4 id
  replace K := K.trans (k8.any _)
  refine WL.op (d := 6) (.bool (!(decide (0 ≤ f.kind ∧ f.kind ≤ 2)))) (k := ?_)
  refine WL.op (d := 7) (.bool (!(decide (0 ≤ f.kind ∧ f.kind ≤ 2)))) (k := ?_)
  refine bsplit (!(decide (0 ≤ f.kind ∧ f.kind ≤ 2))) (fun h9 => ?_) (fun h9 => ?_)
  · have h10 : (decide (0 ≤ f.kind ∧ f.kind ≤ 2)) = false := Bool.not_inj (y := false) h9
    have ph10 := of_decide_eq_false h10
    refine WL.rw (t := 7) (v := .bool true) (congrArg Value.bool h9) (k := ?_)
    refine WL.skip (d := 8) (k := ?_)
    refine WL.skip (d := 9) (k := ?_)
    refine WL.skip (d := 10) (k := ?_)
    refine WL.skip (d := 11) (k := ?_)
    refine WL.op (d := 12) (.bool true) (k := ?_)
    refine WL.op (d := 2) (.bool true) (k := ?_)
    refine WL.nil ?_
    refine WX.seqN ?_
    refine WC.ret ?_
    refine WX.ret (rs := [.tmp 2]) [.bool true] (.bool true) ⟨(by kernel_rfl), trivial⟩ (k := ?_)
    exact ⟨ret_bool (wrong_t (fun k => by simp only [GFate.ok] at k; omega)), K⟩
  · have h11 : (decide (0 ≤ f.kind ∧ f.kind ≤ 2)) = true := Bool.not_inj (y := true) h9
    have ph11 := of_decide_eq_true h11
    refine WL.rw (t := 7) (v := .bool false) (congrArg Value.bool h9) (k := ?_)
    refine WL.op (d := 8) (.pointer (some ⟨b1, 1, none⟩)) (k := ?_)
    refine WL.load (v := .int .i64 f.at_) (ld1 (T := 3) (i := 1) hb4) (k := ?_)
    refine WL.callG (d := 10) (f := 42) (args := #[.int .i64 f.at_, .int .i64 64]) (sWithin_c f.at_ 64 w7) (k := fun e_ w12 h_ => ⟨.bool (decide (0 ≤ f.at_ ∧ f.at_ ≤ 64)), h_.1, ?_⟩)
    have k13 := h_.2; clear h_
    replace hb4 := k13.heap hb4 id
    replace K := K.trans (k13.any _)
    refine WL.op (d := 11) (.bool (!(decide (0 ≤ f.at_ ∧ f.at_ ≤ 64)))) (k := ?_)
    refine WL.op (d := 12) (.bool (!(decide (0 ≤ f.at_ ∧ f.at_ ≤ 64)))) (k := ?_)
    refine WL.op (d := 2) (.bool (!(decide (0 ≤ f.at_ ∧ f.at_ ≤ 64)))) (k := ?_)
    refine WL.nil ?_
    refine WX.seqN ?_
    refine WC.ret ?_
    refine WX.ret (rs := [.tmp 2]) [.bool (!(decide (0 ≤ f.at_ ∧ f.at_ ≤ 64)))] (.bool (!(decide (0 ≤ f.at_ ∧ f.at_ ≤ 64)))) ⟨(by kernel_rfl), trivial⟩ (k := ?_)
    exact ⟨ret_bool (wrong_e (by omega)), K⟩
set_option maxRecDepth 100000 in
theorem sIdxF_c {A : Option Addr} {cp : Nat} {xs : List GFate} {w : World} (hA : SlAt fateC 2 89 A xs w) (hn : xs.length ≤ 1000000000) : Calls Tryd.prog 59 #[.slice A xs.length cp, .func (.func 41) #[] #[]] w fun e w' => ∃ x : Int, e = .returned (.int .i64 x) ∧ decide (x ≥ 0) = !(okFs xs) ∧ Adds w w' := by
  have K : Keeps (fun _ => False) w w := Keeps.refl _ w
  refine Calls.start Tryd.func59 rfl (by kernel_rfl) ?_
  refine WC.seq ?_
  refine WC.region ?_
  refine WL.op (d := 4) (.int .i64 0) (k := ?_)
  refine WL.nil ?_
  refine WX.seqN ?_
  refine WC.seq ?_
  refine WC.seq ?_
  refine WC.region ?_
  refine WL.op (d := 6) (.slice A xs.length cp) (k := ?_)
  refine WL.op (d := 7) (.int .i64 (xs.length : Int)) (k := ?_)
  refine WL.op (d := 8) (.int .i64 0) (k := ?_)
  refine WL.nil ?_
  refine WX.seqN ?_
  refine WC.block ?_
  refine WC.loop (ι := Int) (fun (i : Int) => [(0, .slice A xs.length cp), (1, .func (.func 41) #[] #[]), (6, .slice A xs.length cp), (7, .int .i64 (xs.length : Int)), (8, .int .i64 i)]) (fun (i : Int) (w_ : World) => (Keeps (fun _ => False) w w_) ∧ (0 ≤ i) ∧ (i ≤ xs.length) ∧ (upF xs i)) (fun (i : Int) => (xs.length - i).toNat) 0 ⟨(by kernel_rfl), (by kernel_rfl), (by kernel_rfl), (by kernel_rfl), (by kernel_rfl), trivial⟩ ⟨K, Int.le_refl 0, (by omega), upF_zero _⟩ ?_
  rintro i w1 ⟨K, i0, i1, iu⟩
  refine WC.seq ?_
  refine WC.region ?_
  refine WL.op (d := 9) (.bool (decide (i < (xs.length : Int)))) (k := ?_)
  refine WL.nil ?_
  refine WX.seqN ?_
  refine WC.seq ?_
  refine WC.cond (b := decide (i < (xs.length : Int))) (ht := fun h2 => ?_) (hf := fun h2 => ?_)
  · have ph2 := of_decide_eq_true h2
    refine WC.skip ?_
    refine WX.seqN ?_
    refine WC.seq ?_
    refine WC.block ?_
    refine WC.seq ?_
    refine WC.region ?_
    refine WL.op (d := 10) (.int .i64 i) (k := ?_)
    refine WL.op (d := 5) (.int .i64 i) (k := ?_)
    refine WL.nil ?_
    refine WX.seqN ?_
    refine WC.seq ?_
    refine WC.region ?_
    refine WL.op (d := 11) (.func (.func 41) #[] #[]) (k := ?_)
    refine WL.op (d := 12) (.slice A xs.length cp) (k := ?_)
    refine WL.op (d := 13) (.int .i64 i) (k := ?_)
    obtain ⟨b3, o4, r5, hr6, hA7, he8⟩ := SlAt.at hA (i := i) (by omega) (by omega)
    refine WL.rw (t := 12) (v := .slice (some ⟨b3, o4, none⟩) xs.length cp) (congrArg (fun a => Value.slice a xs.length cp) hA7) (k := ?_)
    refine WL.idx (T := 40) (E := 89) (m := 2) (b := b3) (o := o4) (len := xs.length) (cap := cp) (i := i) (kk := .i64) (d := 14) (by omega) (by omega) (k := ?_)
    refine WL.rw (t := 12) (v := .slice A xs.length cp) (congrArg (fun a => Value.slice a xs.length cp) (Eq.symm hA7)) (k := ?_)
    refine WL.load (v := GFate.val r5) ((he8.adds K).ldW (T := 89)) (k := ?_)
    refine WL.callG (d := 16) (f := 41) (args := #[GFate.val r5]) (sCheck1_c r5 w1) (k := fun e_ w9 h_ => ⟨.bool (!(decide (GFate.ok r5))), h_.1, ?_⟩)
    have k10 := h_.2; clear h_
    replace K := K.trans (k10.any _)
    refine WL.nil ?_
    refine WX.seqN ?_
    refine WC.cond (b := !(decide (GFate.ok r5))) (ht := fun h11 => ?_) (hf := fun h11 => ?_)
    · have h12 : (decide (GFate.ok r5)) = false := Bool.not_inj (y := false) h11
      have ph12 := of_decide_eq_false h12
      refine WC.seq ?_
      refine WC.region ?_
      refine WL.op (d := 17) (.int .i64 i) (k := ?_)
      refine WL.op (d := 4) (.int .i64 i) (k := ?_)
      refine WL.nil ?_
      refine WX.seqN ?_
      refine WC.ret ?_
      refine WX.blockR ?_
      refine WX.seqR ?_
      refine WX.seqR ?_
      refine WX.blockR ?_
      refine WX.seqR ?_
      refine WX.ret (rs := [.tmp 4]) [.int .i64 i] (.int .i64 i) ⟨(by kernel_rfl), trivial⟩ (k := ?_)
      exact ⟨_, rfl, (by rw [okFs_bad hr6 ph12]; simpa using i0), K⟩
    · have h13 : (decide (GFate.ok r5)) = true := Bool.not_inj (y := true) h11
      have ph13 := of_decide_eq_true h13
      refine WC.skip ?_
      refine WX.blockN ?_
      refine WX.seqN ?_
      refine WC.region ?_
      refine WL.opE (d := 18) (.int .i64 (IntKind.i64.wrap (i + 1))) (v := .int .i64 (i + 1)) (congrArg (Value.int .i64) (IntWalk.i64_in _ (by omega))) (k := ?_)
      refine WL.op (d := 8) (.int .i64 (i + 1)) (k := ?_)
      refine WL.nil ?_
      refine WX.round (i + 1) (by show (xs.length - (i + 1)).toNat < (xs.length - i).toNat; omega) ⟨(by kernel_rfl), (by kernel_rfl), (by kernel_rfl), (by kernel_rfl), (by kernel_rfl), trivial⟩ ⟨K, (by omega), (by omega), (upF_succ i0 iu hr6 ph13)⟩
  · have ph2 := of_decide_eq_false h2
    refine WC.exit ?_
    refine WX.seqE ?_
    refine WX.seqE ?_
    refine WX.blockE ?_
    refine WX.seqN ?_
    refine WC.seq ?_
    refine WC.region ?_
    refine WL.op (d := 4) (.int .i64 (-1)) (k := ?_)
    refine WL.nil ?_
    refine WX.seqN ?_
    refine WC.ret ?_
    refine WX.ret (rs := [.tmp 4]) [.int .i64 (-1)] (.int .i64 (-1)) ⟨(by kernel_rfl), trivial⟩ (k := ?_)
    exact ⟨_, rfl, (by rw [okFs_end (i := i) (by omega) iu]; rfl), K⟩
set_option maxRecDepth 100000 in
theorem sContF_c {A : Option Addr} {cp : Nat} {xs : List GFate} {w : World} (hA : SlAt fateC 2 89 A xs w) (hn : xs.length ≤ 1000000000) : Calls Tryd.prog 46 #[.slice A xs.length cp, .func (.func 41) #[] #[]] w fun e w' => e = .returned (.bool (!(okFs xs))) ∧ Adds w w' := by
  have K : Keeps (fun _ => False) w w := Keeps.refl _ w
  refine Calls.start Tryd.func46 rfl (by kernel_rfl) ?_
  refine WC.seq ?_
  refine WC.region ?_
  refine WL.op (d := 4) (.bool false) (k := ?_)
  refine WL.nil ?_
  refine WX.seqN ?_
  refine WC.seq ?_
  refine WC.region ?_
  refine WL.op (d := 5) (.slice A xs.length cp) (k := ?_)
  refine WL.op (d := 6) (.func (.func 41) #[] #[]) (k := ?_)
  refine WL.callG (d := 7) (f := 59) (args := #[.slice A xs.length cp, .func (.func 41) #[] #[]]) (sIdxF_c (cp := cp) (hA.adds K) (by omega)) (k := fun e_ w1 h_ => ?_)
  obtain ⟨x2, rfl, hx3, k4⟩ := h_
  refine ⟨_, rfl, ?_⟩
  replace K := K.trans (k4.any _)
  refine WL.op (d := 8) (.bool (decide (x2 ≥ 0))) (k := ?_)
  refine WL.op (d := 4) (.bool (decide (x2 ≥ 0))) (k := ?_)
  refine WL.nil ?_
  refine WX.seqN ?_
  refine WC.ret ?_
  refine WX.ret (rs := [.tmp 4]) [.bool (decide (x2 ≥ 0))] (.bool (decide (x2 ≥ 0))) ⟨(by kernel_rfl), trivial⟩ (k := ?_)
  exact ⟨ret_bool hx3, K⟩
set_option maxRecDepth 100000 in
set_option maxHeartbeats 4000000 in
theorem sSame_c {x y : GCmd} {w : World} (ha : SlAt fateC 2 89 x.A x.p.fs w) (hb : SlAt fateC 2 89 y.A y.p.fs w) (la : x.p.fs.length ≤ 1000000000) (lb : y.p.fs.length ≤ 1000000000) : Calls Tryd.prog 43 #[x.val, y.val] w fun e w' => e = .returned (.bool (decide (x.p = y.p))) ∧ Adds w w' := by
  have K : Keeps (fun _ => False) w w := Keeps.refl _ w
  refine Calls.start Tryd.func43 rfl (by kernel_rfl) ?_
  refine WC.seq ?_
  refine WC.region ?_
  refine WL.new (d := 2) (T := 42) (Value.cells (GCmd.val x)) (k := fun b1 w2 g3 hb4 k5 => ?_)
  have z6 := Nat.le_trans K.size g3
  replace K := K.trans (k5.any _)
  refine WL.new (d := 3) (T := 42) (Value.cells (GCmd.val y)) (k := fun b7 w8 g9 hb10 k11 => ?_)
  have z12 := Nat.le_trans K.size g9
  have n13 : b1 ≠ b7 := Nat.ne_of_lt (Nat.lt_of_lt_of_le (lt_of_heap hb4) g9)
  replace hb4 := k11.heap hb4 id
  replace K := K.trans (k11.any _)
  refine WL.op (d := 4) (.bool false) (k := ?_)
  refine WL.nil ?_
  refine WX.seqN ?_
  refine WC.seq ?_
  refine WC.region ?_
  refine WL.op (d := 5) (.pointer (some ⟨b1, 0, none⟩)) (k := ?_)
  refine WL.load (v := .int .i64 x.p.kind) (ld1 (T := 3) (i := 0) hb4) (k := ?_)
  refine WL.op (d := 7) (.pointer (some ⟨b7, 0, none⟩)) (k := ?_)
  refine WL.load (v := .int .i64 y.p.kind) (ld1 (T := 3) (i := 0) hb10) (k := ?_)
  refine WL.op (d := 9) (.bool (x.p.kind == y.p.kind)) (k := ?_)
  refine WL.op (d := 10) (.bool (x.p.kind == y.p.kind)) (k := ?_)
  refine bsplit (x.p.kind == y.p.kind) (fun h14 => ?_) (fun h14 => ?_)
  · have ph14 := eq_of_beq h14
    refine WL.rw (t := 10) (v := .bool true) (congrArg Value.bool h14) (k := ?_)
    refine WL.op (d := 11) (.pointer (some ⟨b1, 1, none⟩)) (k := ?_)
    refine WL.load (v := GOp.val x.p.op) (ldN (T := 39) (i := 1) (m := 10) (l := (Value.cells (GOp.val x.p.op)).toList) hb4) (k := ?_)
    refine WL.op (d := 13) (.pointer (some ⟨b7, 1, none⟩)) (k := ?_)
    refine WL.load (v := GOp.val y.p.op) (ldN (T := 39) (i := 1) (m := 10) (l := (Value.cells (GOp.val y.p.op)).toList) hb10) (k := ?_)
    refine WL.bin (d := 15) (v := .bool (GOp.same x.p.op y.p.op)) (eqOpV x.p.op y.p.op _) (k := ?_)
    refine WL.op (d := 16) (.bool (GOp.same x.p.op y.p.op)) (k := ?_)
    refine WL.op (d := 17) (.bool (GOp.same x.p.op y.p.op)) (k := ?_)
    refine bsplit (GOp.same x.p.op y.p.op) (fun h15 => ?_) (fun h15 => ?_)
    · have ph15 := same_true h15
      refine WL.rw (t := 17) (v := .bool true) (congrArg Value.bool h15) (k := ?_)
      refine WL.op (d := 18) (.pointer (some ⟨b1, 11, none⟩)) (k := ?_)
      refine WL.load (v := .int .i64 x.p.id) (ld1 (T := 3) (i := 11) hb4) (k := ?_)
      refine WL.op (d := 20) (.pointer (some ⟨b7, 11, none⟩)) (k := ?_)
      refine WL.load (v := .int .i64 y.p.id) (ld1 (T := 3) (i := 11) hb10) (k := ?_)
      refine WL.op (d := 22) (.bool (x.p.id == y.p.id)) (k := ?_)
      refine WL.op (d := 23) (.bool (x.p.id == y.p.id)) (k := ?_)
      refine WL.op (d := 24) (.bool (x.p.id == y.p.id)) (k := ?_)
      refine bsplit (x.p.id == y.p.id) (fun h16 => ?_) (fun h16 => ?_)
      · have ph16 := eq_of_beq h16
        refine WL.rw (t := 24) (v := .bool true) (congrArg Value.bool h16) (k := ?_)
        refine WL.op (d := 25) (.pointer (some ⟨b1, 12, none⟩)) (k := ?_)
        refine WL.load (v := .int .i64 x.p.work) (ld1 (T := 2) (i := 12) hb4) (k := ?_)
        refine WL.op (d := 27) (.pointer (some ⟨b7, 12, none⟩)) (k := ?_)
        refine WL.load (v := .int .i64 y.p.work) (ld1 (T := 2) (i := 12) hb10) (k := ?_)
        refine WL.op (d := 29) (.bool (x.p.work == y.p.work)) (k := ?_)
        refine WL.op (d := 30) (.bool (x.p.work == y.p.work)) (k := ?_)
        refine WL.op (d := 31) (.bool (x.p.work == y.p.work)) (k := ?_)
        refine bsplit (x.p.work == y.p.work) (fun h17 => ?_) (fun h17 => ?_)
        · have ph17 := eq_of_beq h17
          refine WL.rw (t := 31) (v := .bool true) (congrArg Value.bool h17) (k := ?_)
          refine WL.op (d := 32) (.pointer (some ⟨b1, 13, none⟩)) (k := ?_)
          refine WL.load (v := .int .i64 x.p.n) (ld1 (T := 3) (i := 13) hb4) (k := ?_)
          refine WL.op (d := 34) (.pointer (some ⟨b7, 13, none⟩)) (k := ?_)
          refine WL.load (v := .int .i64 y.p.n) (ld1 (T := 3) (i := 13) hb10) (k := ?_)
          refine WL.op (d := 36) (.bool (x.p.n == y.p.n)) (k := ?_)
          refine WL.op (d := 37) (.bool (x.p.n == y.p.n)) (k := ?_)
          refine WL.op (d := 38) (.bool (x.p.n == y.p.n)) (k := ?_)
          refine bsplit (x.p.n == y.p.n) (fun h18 => ?_) (fun h18 => ?_)
          · have ph18 := eq_of_beq h18
            refine WL.rw (t := 38) (v := .bool true) (congrArg Value.bool h18) (k := ?_)
            refine WL.op (d := 39) (.pointer (some ⟨b1, 14, none⟩)) (k := ?_)
            refine WL.load (v := .slice x.A x.p.fs.length x.cap) (ld1 (T := 40) (i := 14) hb4) (k := ?_)
            refine WL.op (d := 41) (.pointer (some ⟨b7, 14, none⟩)) (k := ?_)
            refine WL.load (v := .slice y.A y.p.fs.length y.cap) (ld1 (T := 40) (i := 14) hb10) (k := ?_)
            refine WL.callG (d := 43) (f := 56) (args := #[.slice x.A x.p.fs.length x.cap, .slice y.A y.p.fs.length y.cap]) (sEqualF_c (cp := x.cap) (cq := y.cap) (ha.adds K) (hb.adds K) (by first | omega | (simp; omega)) (by first | omega | (simp; omega))) (k := fun e_ w19 h_ => ⟨.bool (decide (x.p.fs = y.p.fs)), h_.1, ?_⟩)
            have k20 := h_.2; clear h_
            replace hb4 := k20.heap hb4 id
            replace hb10 := k20.heap hb10 id
            replace K := K.trans (k20.any _)
            refine WL.op (d := 44) (.bool (decide (x.p.fs = y.p.fs))) (k := ?_)
            refine WL.op (d := 4) (.bool (decide (x.p.fs = y.p.fs))) (k := ?_)
            refine WL.nil ?_
            refine WX.seqN ?_
            refine WC.ret ?_
            refine WX.ret (rs := [.tmp 4]) [.bool (decide (x.p.fs = y.p.fs))] (.bool (decide (x.p.fs = y.p.fs))) ⟨(by kernel_rfl), trivial⟩ (k := ?_)
            exact ⟨ret_bool (same_fin ph14 h15 ph16 ph17 ph18), K⟩
          · have ph18 := ne_of_beq_false h18
            refine WL.rw (t := 38) (v := .bool false) (congrArg Value.bool h18) (k := ?_)
            refine WL.skip (d := 39) (k := ?_)
            refine WL.skip (d := 40) (k := ?_)
            refine WL.skip (d := 41) (k := ?_)
            refine WL.skip (d := 42) (k := ?_)
            refine WL.skip (d := 43) (k := ?_)
            refine WL.op (d := 44) (.bool false) (k := ?_)
            refine WL.op (d := 4) (.bool false) (k := ?_)
            refine WL.nil ?_
            refine WX.seqN ?_
            refine WC.ret ?_
            refine WX.ret (rs := [.tmp 4]) [.bool false] (.bool false) ⟨(by kernel_rfl), trivial⟩ (k := ?_)
            exact ⟨ret_bool (same_ne fun e => ph18 (congrArg PCmd.n e)), K⟩
        · have ph17 := ne_of_beq_false h17
          refine WL.rw (t := 31) (v := .bool false) (congrArg Value.bool h17) (k := ?_)
          refine WL.skip (d := 32) (k := ?_)
          refine WL.skip (d := 33) (k := ?_)
          refine WL.skip (d := 34) (k := ?_)
          refine WL.skip (d := 35) (k := ?_)
          refine WL.skip (d := 36) (k := ?_)
          refine WL.op (d := 37) (.bool false) (k := ?_)
          refine WL.op (d := 38) (.bool false) (k := ?_)
          refine WL.skip (d := 39) (k := ?_)
          refine WL.skip (d := 40) (k := ?_)
          refine WL.skip (d := 41) (k := ?_)
          refine WL.skip (d := 42) (k := ?_)
          refine WL.skip (d := 43) (k := ?_)
          refine WL.op (d := 44) (.bool false) (k := ?_)
          refine WL.op (d := 4) (.bool false) (k := ?_)
          refine WL.nil ?_
          refine WX.seqN ?_
          refine WC.ret ?_
          refine WX.ret (rs := [.tmp 4]) [.bool false] (.bool false) ⟨(by kernel_rfl), trivial⟩ (k := ?_)
          exact ⟨ret_bool (same_ne fun e => ph17 (congrArg PCmd.work e)), K⟩
      · have ph16 := ne_of_beq_false h16
        refine WL.rw (t := 24) (v := .bool false) (congrArg Value.bool h16) (k := ?_)
        refine WL.skip (d := 25) (k := ?_)
        refine WL.skip (d := 26) (k := ?_)
        refine WL.skip (d := 27) (k := ?_)
        refine WL.skip (d := 28) (k := ?_)
        refine WL.skip (d := 29) (k := ?_)
        refine WL.op (d := 30) (.bool false) (k := ?_)
        refine WL.op (d := 31) (.bool false) (k := ?_)
        refine WL.skip (d := 32) (k := ?_)
        refine WL.skip (d := 33) (k := ?_)
        refine WL.skip (d := 34) (k := ?_)
        refine WL.skip (d := 35) (k := ?_)
        refine WL.skip (d := 36) (k := ?_)
        refine WL.op (d := 37) (.bool false) (k := ?_)
        refine WL.op (d := 38) (.bool false) (k := ?_)
        refine WL.skip (d := 39) (k := ?_)
        refine WL.skip (d := 40) (k := ?_)
        refine WL.skip (d := 41) (k := ?_)
        refine WL.skip (d := 42) (k := ?_)
        refine WL.skip (d := 43) (k := ?_)
        refine WL.op (d := 44) (.bool false) (k := ?_)
        refine WL.op (d := 4) (.bool false) (k := ?_)
        refine WL.nil ?_
        refine WX.seqN ?_
        refine WC.ret ?_
        refine WX.ret (rs := [.tmp 4]) [.bool false] (.bool false) ⟨(by kernel_rfl), trivial⟩ (k := ?_)
        exact ⟨ret_bool (same_ne fun e => ph16 (congrArg PCmd.id e)), K⟩
    · have ph15 := same_false h15
      refine WL.rw (t := 17) (v := .bool false) (congrArg Value.bool h15) (k := ?_)
      refine WL.skip (d := 18) (k := ?_)
      refine WL.skip (d := 19) (k := ?_)
      refine WL.skip (d := 20) (k := ?_)
      refine WL.skip (d := 21) (k := ?_)
      refine WL.skip (d := 22) (k := ?_)
      refine WL.op (d := 23) (.bool false) (k := ?_)
      refine WL.op (d := 24) (.bool false) (k := ?_)
      refine WL.skip (d := 25) (k := ?_)
      refine WL.skip (d := 26) (k := ?_)
      refine WL.skip (d := 27) (k := ?_)
      refine WL.skip (d := 28) (k := ?_)
      refine WL.skip (d := 29) (k := ?_)
      refine WL.op (d := 30) (.bool false) (k := ?_)
      refine WL.op (d := 31) (.bool false) (k := ?_)
      refine WL.skip (d := 32) (k := ?_)
      refine WL.skip (d := 33) (k := ?_)
      refine WL.skip (d := 34) (k := ?_)
      refine WL.skip (d := 35) (k := ?_)
      refine WL.skip (d := 36) (k := ?_)
      refine WL.op (d := 37) (.bool false) (k := ?_)
      refine WL.op (d := 38) (.bool false) (k := ?_)
      refine WL.skip (d := 39) (k := ?_)
      refine WL.skip (d := 40) (k := ?_)
      refine WL.skip (d := 41) (k := ?_)
      refine WL.skip (d := 42) (k := ?_)
      refine WL.skip (d := 43) (k := ?_)
      refine WL.op (d := 44) (.bool false) (k := ?_)
      refine WL.op (d := 4) (.bool false) (k := ?_)
      refine WL.nil ?_
      refine WX.seqN ?_
      refine WC.ret ?_
      refine WX.ret (rs := [.tmp 4]) [.bool false] (.bool false) ⟨(by kernel_rfl), trivial⟩ (k := ?_)
      exact ⟨ret_bool (same_op h15), K⟩
  · have ph14 := ne_of_beq_false h14
    refine WL.rw (t := 10) (v := .bool false) (congrArg Value.bool h14) (k := ?_)
    refine WL.skip (d := 11) (k := ?_)
    refine WL.skip (d := 12) (k := ?_)
    refine WL.skip (d := 13) (k := ?_)
    refine WL.skip (d := 14) (k := ?_)
    refine WL.skip (d := 15) (k := ?_)
    refine WL.op (d := 16) (.bool false) (k := ?_)
    refine WL.op (d := 17) (.bool false) (k := ?_)
    refine WL.skip (d := 18) (k := ?_)
    refine WL.skip (d := 19) (k := ?_)
    refine WL.skip (d := 20) (k := ?_)
    refine WL.skip (d := 21) (k := ?_)
    refine WL.skip (d := 22) (k := ?_)
    refine WL.op (d := 23) (.bool false) (k := ?_)
    refine WL.op (d := 24) (.bool false) (k := ?_)
    refine WL.skip (d := 25) (k := ?_)
    refine WL.skip (d := 26) (k := ?_)
    refine WL.skip (d := 27) (k := ?_)
    refine WL.skip (d := 28) (k := ?_)
    refine WL.skip (d := 29) (k := ?_)
    refine WL.op (d := 30) (.bool false) (k := ?_)
    refine WL.op (d := 31) (.bool false) (k := ?_)
    refine WL.skip (d := 32) (k := ?_)
    refine WL.skip (d := 33) (k := ?_)
    refine WL.skip (d := 34) (k := ?_)
    refine WL.skip (d := 35) (k := ?_)
    refine WL.skip (d := 36) (k := ?_)
    refine WL.op (d := 37) (.bool false) (k := ?_)
    refine WL.op (d := 38) (.bool false) (k := ?_)
    refine WL.skip (d := 39) (k := ?_)
    refine WL.skip (d := 40) (k := ?_)
    refine WL.skip (d := 41) (k := ?_)
    refine WL.skip (d := 42) (k := ?_)
    refine WL.skip (d := 43) (k := ?_)
    refine WL.op (d := 44) (.bool false) (k := ?_)
    refine WL.op (d := 4) (.bool false) (k := ?_)
    refine WL.nil ?_
    refine WX.seqN ?_
    refine WC.ret ?_
    refine WX.ret (rs := [.tmp 4]) [.bool false] (.bool false) ⟨(by kernel_rfl), trivial⟩ (k := ?_)
    exact ⟨ret_bool (same_ne fun e => ph14 (congrArg PCmd.kind e)), K⟩
set_option maxRecDepth 100000 in
set_option maxHeartbeats 4000000 in
theorem u23Same_c {x y : GCmd} {w : World} (ha : SlAt fateC 2 89 x.A x.p.fs w) (hb : SlAt fateC 2 89 y.A y.p.fs w) (la : x.p.fs.length ≤ 1000000000) (lb : y.p.fs.length ≤ 1000000000) : Calls Tryd.prog 30 #[x.val, y.val] w fun e w' => e = .returned (.bool (decide (x.p = y.p))) ∧ Adds w w' := by
  have K : Keeps (fun _ => False) w w := Keeps.refl _ w
  refine Calls.start Tryd.func30 rfl (by kernel_rfl) ?_
  refine WC.seq ?_
  refine WC.region ?_
  refine WL.new (d := 2) (T := 42) (Value.cells (GCmd.val x)) (k := fun b1 w2 g3 hb4 k5 => ?_)
  have z6 := Nat.le_trans K.size g3
  replace K := K.trans (k5.any _)
  refine WL.new (d := 3) (T := 42) (Value.cells (GCmd.val y)) (k := fun b7 w8 g9 hb10 k11 => ?_)
  have z12 := Nat.le_trans K.size g9
  have n13 : b1 ≠ b7 := Nat.ne_of_lt (Nat.lt_of_lt_of_le (lt_of_heap hb4) g9)
  replace hb4 := k11.heap hb4 id
  replace K := K.trans (k11.any _)
  refine WL.op (d := 4) (.bool false) (k := ?_)
  refine WL.nil ?_
  refine WX.seqN ?_
  refine WC.seq ?_
  refine WC.seq ?_
  refine WC.region ?_
  refine WL.op (d := 6) (.pointer (some ⟨b1, 14, none⟩)) (k := ?_)
  refine WL.load (v := .slice x.A x.p.fs.length x.cap) (ld1 (T := 40) (i := 14) hb4) (k := ?_)
  refine WL.op (d := 8) (.int .i64 (x.p.fs.length : Int)) (k := ?_)
  refine WL.op (d := 9) (.pointer (some ⟨b7, 14, none⟩)) (k := ?_)
  refine WL.load (v := .slice y.A y.p.fs.length y.cap) (ld1 (T := 40) (i := 14) hb10) (k := ?_)
  refine WL.op (d := 11) (.int .i64 (y.p.fs.length : Int)) (k := ?_)
  refine WL.op (d := 12) (.bool ((x.p.fs.length : Int) != (y.p.fs.length : Int))) (k := ?_)
  refine WL.nil ?_
  refine WX.seqN ?_
  refine WC.cond (b := (x.p.fs.length : Int) != (y.p.fs.length : Int)) (ht := fun h14 => ?_) (hf := fun h14 => ?_)
  · have ph14 := bne_iff_ne.1 h14
    refine WC.seq ?_
    refine WC.region ?_
    refine WL.op (d := 4) (.bool false) (k := ?_)
    refine WL.nil ?_
    refine WX.seqN ?_
    refine WC.ret ?_
    refine WX.seqR ?_
    refine WX.ret (rs := [.tmp 4]) [.bool false] (.bool false) ⟨(by kernel_rfl), trivial⟩ (k := ?_)
    exact ⟨ret_bool (same_ne fun e => of_decide_eq_false (Eq.symm (eqU_len (xs := x.p.fs) (ys := y.p.fs) (by omega))) (congrArg PCmd.fs e)), K⟩
  · have ph14 := of_bne_false h14
    refine WC.skip ?_
    refine WX.seqN ?_
    refine WC.seq ?_
    refine WC.seq ?_
    refine WC.region ?_
    refine WL.op (d := 5) (.int .i64 0) (k := ?_)
    refine WL.nil ?_
    refine WX.seqN ?_
    refine WC.block ?_
    refine WC.loop (ι := Int) (fun (i : Int) => [(0, GCmd.val x), (1, GCmd.val y), (2, .pointer (some ⟨b1, 0, none⟩)), (3, .pointer (some ⟨b7, 0, none⟩)), (6, .pointer (some ⟨b1, 14, none⟩)), (7, .slice x.A x.p.fs.length x.cap), (8, .int .i64 (x.p.fs.length : Int)), (9, .pointer (some ⟨b7, 14, none⟩)), (10, .slice y.A y.p.fs.length y.cap), (11, .int .i64 (y.p.fs.length : Int)), (12, .bool ((x.p.fs.length : Int) != (y.p.fs.length : Int))), (5, .int .i64 i)]) (fun (i : Int) (w_ : World) => (Keeps (fun _ => False) w w_) ∧ (w_.heap[b1]? = some (.cells (Value.cells (GCmd.val x)) 42 (0, 0))) ∧ (w_.heap[b7]? = some (.cells (Value.cells (GCmd.val y)) 42 (0, 0))) ∧ (0 ≤ i) ∧ (i ≤ x.p.fs.length) ∧ (eqU x.p.fs y.p.fs i)) (fun (i : Int) => (x.p.fs.length - i).toNat) 0 ⟨(by kernel_rfl), (by kernel_rfl), (by kernel_rfl), (by kernel_rfl), (by kernel_rfl), (by kernel_rfl), (by kernel_rfl), (by kernel_rfl), (by kernel_rfl), (by kernel_rfl), (by kernel_rfl), (by kernel_rfl), trivial⟩ ⟨K, hb4, hb10, Int.le_refl 0, (by omega), eqU_zero _ _⟩ ?_
    rintro i w15 ⟨K, hb16, hb17, i0, i1, iu⟩
    refine WC.seq ?_
    refine WC.seq ?_
    refine WC.region ?_
    refine WL.op (d := 13) (.int .i64 i) (k := ?_)
    refine WL.op (d := 14) (.pointer (some ⟨b1, 14, none⟩)) (k := ?_)
    refine WL.load (v := .slice x.A x.p.fs.length x.cap) (ld1 (T := 40) (i := 14) hb16) (k := ?_)
    refine WL.op (d := 16) (.int .i64 (x.p.fs.length : Int)) (k := ?_)
    refine WL.op (d := 17) (.bool (decide (i < (x.p.fs.length : Int)))) (k := ?_)
    refine WL.nil ?_
    refine WX.seqN ?_
    refine WC.cond (b := decide (i < (x.p.fs.length : Int))) (ht := fun h18 => ?_) (hf := fun h18 => ?_)
    · have ph18 := of_decide_eq_true h18
      refine WC.skip ?_
      refine WX.seqN ?_
      refine WC.seq ?_
      refine WC.block ?_
      refine WC.seq ?_
      refine WC.quiet (k := ?_)
      refine WQ.op (d := 20) (.pointer (some ⟨b1, 14, none⟩)) (k := ?_)
      refine WQ.load (v := .slice x.A x.p.fs.length x.cap) (fun w_ k_ => ld1 (T := 40) (i := 14) (k_.heap hb16 id)) (k := ?_)
      refine WQ.op (d := 22) (.int .i64 i) (k := ?_)
      obtain ⟨b19, o20, r21, hr22, hA23, he24⟩ := SlAt.at ha (i := i) (by omega) (by omega)
      refine WQ.rw (t := 21) (v := .slice (some ⟨b19, o20, none⟩) x.p.fs.length x.cap) (congrArg (fun a => Value.slice a x.p.fs.length x.cap) hA23) (k := ?_)
      refine WQ.idx (T := 40) (E := 89) (m := 2) (b := b19) (o := o20) (len := x.p.fs.length) (cap := x.cap) (i := i) (kk := .i64) (d := 23) (by omega) (by omega) (k := ?_)
      refine WQ.rw (t := 21) (v := .slice x.A x.p.fs.length x.cap) (congrArg (fun a => Value.slice a x.p.fs.length x.cap) (Eq.symm hA23)) (k := ?_)
      refine WQ.load (v := GFate.val r21) (fun w_ k_ => ((he24.adds K).adds k_).ldW (T := 89)) (k := ?_)
      refine WQ.op (d := 25) (.pointer (some ⟨b7, 14, none⟩)) (k := ?_)
      refine WQ.load (v := .slice y.A y.p.fs.length y.cap) (fun w_ k_ => ld1 (T := 40) (i := 14) (k_.heap hb17 id)) (k := ?_)
      refine WQ.op (d := 27) (.int .i64 i) (k := ?_)
      obtain ⟨b25, o26, r27, hr28, hA29, he30⟩ := SlAt.at hb (i := i) (by omega) (by omega)
      refine WQ.rw (t := 26) (v := .slice (some ⟨b25, o26, none⟩) y.p.fs.length y.cap) (congrArg (fun a => Value.slice a y.p.fs.length y.cap) hA29) (k := ?_)
      refine WQ.idx (T := 40) (E := 89) (m := 2) (b := b25) (o := o26) (len := y.p.fs.length) (cap := y.cap) (i := i) (kk := .i64) (d := 28) (by omega) (by omega) (k := ?_)
      refine WQ.rw (t := 26) (v := .slice y.A y.p.fs.length y.cap) (congrArg (fun a => Value.slice a y.p.fs.length y.cap) (Eq.symm hA29)) (k := ?_)
      refine WQ.load (v := GFate.val r27) (fun w_ k_ => ((he30.adds K).adds k_).ldW (T := 89)) (k := ?_)
      refine WQ.bin (d := 30) (v := .bool (!(decide (r21 = r27)))) (fun w_ => neqFateV r21 r27 w_) (k := ?_)
      refine WQ.nilX (fun w31 k32 => ?_)
      replace hb16 := k32.heap hb16 id
      replace hb17 := k32.heap hb17 id
      replace K := K.trans (k32.any _)
      refine WX.seqN ?_
      refine WC.cond (b := !(decide (r21 = r27))) (ht := fun h33 => ?_) (hf := fun h33 => ?_)
      · have h34 : (decide (r21 = r27)) = false := Bool.not_inj (y := false) h33
        have ph34 := of_decide_eq_false h34
        refine WC.seq ?_
        refine WC.region ?_
        refine WL.op (d := 4) (.bool false) (k := ?_)
        refine WL.nil ?_
        refine WX.seqN ?_
        refine WC.ret ?_
        refine WX.blockR ?_
        refine WX.seqR ?_
        refine WX.seqR ?_
        refine WX.blockR ?_
        refine WX.seqR ?_
        refine WX.ret (rs := [.tmp 4]) [.bool false] (.bool false) ⟨(by kernel_rfl), trivial⟩ (k := ?_)
        exact ⟨ret_bool (same_ne fun e => of_decide_eq_false (Eq.symm (eqU_bad hr22 hr28 ph34)) (congrArg PCmd.fs e)), K⟩
      · have h35 : (decide (r21 = r27)) = true := Bool.not_inj (y := true) h33
        have ph35 := of_decide_eq_true h35
        refine WC.skip ?_
        refine WX.blockN ?_
        refine WX.seqN ?_
        refine WC.region ?_
        refine WL.op (d := 18) (.int .i64 i) (k := ?_)
        refine WL.opE (d := 19) (.int .i64 (IntKind.i64.wrap (i + 1))) (v := .int .i64 (i + 1)) (congrArg (Value.int .i64) (IntWalk.i64_in _ (by omega))) (k := ?_)
        refine WL.op (d := 5) (.int .i64 (i + 1)) (k := ?_)
        refine WL.nil ?_
        refine WX.round (i + 1) (by show (x.p.fs.length - (i + 1)).toNat < (x.p.fs.length - i).toNat; omega) ⟨(by kernel_rfl), (by kernel_rfl), (by kernel_rfl), (by kernel_rfl), (by kernel_rfl), (by kernel_rfl), (by kernel_rfl), (by kernel_rfl), (by kernel_rfl), (by kernel_rfl), (by kernel_rfl), (by kernel_rfl), trivial⟩ ⟨K, hb16, hb17, (by omega), (by omega), (eqU_succ i0 iu hr22 hr28 ph35)⟩
    · have ph18 := of_decide_eq_false h18
      refine WC.exit ?_
      refine WX.seqE ?_
      refine WX.seqE ?_
      refine WX.blockE ?_
      refine WX.seqN ?_
      refine WC.seq ?_
      refine WC.region ?_
      refine WL.op (d := 31) (.pointer (some ⟨b1, 0, none⟩)) (k := ?_)
      refine WL.load (v := .int .i64 x.p.kind) (ld1 (T := 3) (i := 0) hb16) (k := ?_)
      refine WL.op (d := 33) (.pointer (some ⟨b7, 0, none⟩)) (k := ?_)
      refine WL.load (v := .int .i64 y.p.kind) (ld1 (T := 3) (i := 0) hb17) (k := ?_)
      refine WL.op (d := 35) (.bool (x.p.kind == y.p.kind)) (k := ?_)
      refine WL.op (d := 36) (.bool (x.p.kind == y.p.kind)) (k := ?_)
      refine bsplit (x.p.kind == y.p.kind) (fun h36 => ?_) (fun h36 => ?_)
      · have ph36 := eq_of_beq h36
        refine WL.rw (t := 36) (v := .bool true) (congrArg Value.bool h36) (k := ?_)
        refine WL.op (d := 37) (.pointer (some ⟨b1, 1, none⟩)) (k := ?_)
        refine WL.load (v := GOp.val x.p.op) (ldN (T := 39) (i := 1) (m := 10) (l := (Value.cells (GOp.val x.p.op)).toList) hb16) (k := ?_)
        refine WL.op (d := 39) (.pointer (some ⟨b7, 1, none⟩)) (k := ?_)
        refine WL.load (v := GOp.val y.p.op) (ldN (T := 39) (i := 1) (m := 10) (l := (Value.cells (GOp.val y.p.op)).toList) hb17) (k := ?_)
        refine WL.bin (d := 41) (v := .bool (GOp.same x.p.op y.p.op)) (eqOpV x.p.op y.p.op _) (k := ?_)
        refine WL.op (d := 42) (.bool (GOp.same x.p.op y.p.op)) (k := ?_)
        refine WL.op (d := 43) (.bool (GOp.same x.p.op y.p.op)) (k := ?_)
        refine bsplit (GOp.same x.p.op y.p.op) (fun h37 => ?_) (fun h37 => ?_)
        · have ph37 := same_true h37
          refine WL.rw (t := 43) (v := .bool true) (congrArg Value.bool h37) (k := ?_)
          refine WL.op (d := 44) (.pointer (some ⟨b1, 11, none⟩)) (k := ?_)
          refine WL.load (v := .int .i64 x.p.id) (ld1 (T := 3) (i := 11) hb16) (k := ?_)
          refine WL.op (d := 46) (.pointer (some ⟨b7, 11, none⟩)) (k := ?_)
          refine WL.load (v := .int .i64 y.p.id) (ld1 (T := 3) (i := 11) hb17) (k := ?_)
          refine WL.op (d := 48) (.bool (x.p.id == y.p.id)) (k := ?_)
          refine WL.op (d := 49) (.bool (x.p.id == y.p.id)) (k := ?_)
          refine WL.op (d := 50) (.bool (x.p.id == y.p.id)) (k := ?_)
          refine bsplit (x.p.id == y.p.id) (fun h38 => ?_) (fun h38 => ?_)
          · have ph38 := eq_of_beq h38
            refine WL.rw (t := 50) (v := .bool true) (congrArg Value.bool h38) (k := ?_)
            refine WL.op (d := 51) (.pointer (some ⟨b1, 12, none⟩)) (k := ?_)
            refine WL.load (v := .int .i64 x.p.work) (ld1 (T := 2) (i := 12) hb16) (k := ?_)
            refine WL.op (d := 53) (.pointer (some ⟨b7, 12, none⟩)) (k := ?_)
            refine WL.load (v := .int .i64 y.p.work) (ld1 (T := 2) (i := 12) hb17) (k := ?_)
            refine WL.op (d := 55) (.bool (x.p.work == y.p.work)) (k := ?_)
            refine WL.op (d := 56) (.bool (x.p.work == y.p.work)) (k := ?_)
            refine WL.op (d := 57) (.bool (x.p.work == y.p.work)) (k := ?_)
            refine bsplit (x.p.work == y.p.work) (fun h39 => ?_) (fun h39 => ?_)
            · have ph39 := eq_of_beq h39
              refine WL.rw (t := 57) (v := .bool true) (congrArg Value.bool h39) (k := ?_)
              refine WL.op (d := 58) (.pointer (some ⟨b1, 13, none⟩)) (k := ?_)
              refine WL.load (v := .int .i64 x.p.n) (ld1 (T := 3) (i := 13) hb16) (k := ?_)
              refine WL.op (d := 60) (.pointer (some ⟨b7, 13, none⟩)) (k := ?_)
              refine WL.load (v := .int .i64 y.p.n) (ld1 (T := 3) (i := 13) hb17) (k := ?_)
              refine WL.op (d := 62) (.bool (x.p.n == y.p.n)) (k := ?_)
              refine WL.op (d := 63) (.bool (x.p.n == y.p.n)) (k := ?_)
              refine WL.op (d := 4) (.bool (x.p.n == y.p.n)) (k := ?_)
              refine WL.nil ?_
              refine WX.seqN ?_
              refine WC.ret ?_
              refine WX.ret (rs := [.tmp 4]) [.bool (x.p.n == y.p.n)] (.bool (x.p.n == y.p.n)) ⟨(by kernel_rfl), trivial⟩ (k := ?_)
              exact ⟨ret_bool (same_fin2 ph36 h37 ph38 ph39 (of_decide_eq_true (Eq.symm (eqU_end (i := i) (by omega) (by omega) iu)))), K⟩
            · have ph39 := ne_of_beq_false h39
              refine WL.rw (t := 57) (v := .bool false) (congrArg Value.bool h39) (k := ?_)
              refine WL.skip (d := 58) (k := ?_)
              refine WL.skip (d := 59) (k := ?_)
              refine WL.skip (d := 60) (k := ?_)
              refine WL.skip (d := 61) (k := ?_)
              refine WL.skip (d := 62) (k := ?_)
              refine WL.op (d := 63) (.bool false) (k := ?_)
              refine WL.op (d := 4) (.bool false) (k := ?_)
              refine WL.nil ?_
              refine WX.seqN ?_
              refine WC.ret ?_
              refine WX.ret (rs := [.tmp 4]) [.bool false] (.bool false) ⟨(by kernel_rfl), trivial⟩ (k := ?_)
              exact ⟨ret_bool (same_ne fun e => ph39 (congrArg PCmd.work e)), K⟩
          · have ph38 := ne_of_beq_false h38
            refine WL.rw (t := 50) (v := .bool false) (congrArg Value.bool h38) (k := ?_)
            refine WL.skip (d := 51) (k := ?_)
            refine WL.skip (d := 52) (k := ?_)
            refine WL.skip (d := 53) (k := ?_)
            refine WL.skip (d := 54) (k := ?_)
            refine WL.skip (d := 55) (k := ?_)
            refine WL.op (d := 56) (.bool false) (k := ?_)
            refine WL.op (d := 57) (.bool false) (k := ?_)
            refine WL.skip (d := 58) (k := ?_)
            refine WL.skip (d := 59) (k := ?_)
            refine WL.skip (d := 60) (k := ?_)
            refine WL.skip (d := 61) (k := ?_)
            refine WL.skip (d := 62) (k := ?_)
            refine WL.op (d := 63) (.bool false) (k := ?_)
            refine WL.op (d := 4) (.bool false) (k := ?_)
            refine WL.nil ?_
            refine WX.seqN ?_
            refine WC.ret ?_
            refine WX.ret (rs := [.tmp 4]) [.bool false] (.bool false) ⟨(by kernel_rfl), trivial⟩ (k := ?_)
            exact ⟨ret_bool (same_ne fun e => ph38 (congrArg PCmd.id e)), K⟩
        · have ph37 := same_false h37
          refine WL.rw (t := 43) (v := .bool false) (congrArg Value.bool h37) (k := ?_)
          refine WL.skip (d := 44) (k := ?_)
          refine WL.skip (d := 45) (k := ?_)
          refine WL.skip (d := 46) (k := ?_)
          refine WL.skip (d := 47) (k := ?_)
          refine WL.skip (d := 48) (k := ?_)
          refine WL.op (d := 49) (.bool false) (k := ?_)
          refine WL.op (d := 50) (.bool false) (k := ?_)
          refine WL.skip (d := 51) (k := ?_)
          refine WL.skip (d := 52) (k := ?_)
          refine WL.skip (d := 53) (k := ?_)
          refine WL.skip (d := 54) (k := ?_)
          refine WL.skip (d := 55) (k := ?_)
          refine WL.op (d := 56) (.bool false) (k := ?_)
          refine WL.op (d := 57) (.bool false) (k := ?_)
          refine WL.skip (d := 58) (k := ?_)
          refine WL.skip (d := 59) (k := ?_)
          refine WL.skip (d := 60) (k := ?_)
          refine WL.skip (d := 61) (k := ?_)
          refine WL.skip (d := 62) (k := ?_)
          refine WL.op (d := 63) (.bool false) (k := ?_)
          refine WL.op (d := 4) (.bool false) (k := ?_)
          refine WL.nil ?_
          refine WX.seqN ?_
          refine WC.ret ?_
          refine WX.ret (rs := [.tmp 4]) [.bool false] (.bool false) ⟨(by kernel_rfl), trivial⟩ (k := ?_)
          exact ⟨ret_bool (same_op h37), K⟩
      · have ph36 := ne_of_beq_false h36
        refine WL.rw (t := 36) (v := .bool false) (congrArg Value.bool h36) (k := ?_)
        refine WL.skip (d := 37) (k := ?_)
        refine WL.skip (d := 38) (k := ?_)
        refine WL.skip (d := 39) (k := ?_)
        refine WL.skip (d := 40) (k := ?_)
        refine WL.skip (d := 41) (k := ?_)
        refine WL.op (d := 42) (.bool false) (k := ?_)
        refine WL.op (d := 43) (.bool false) (k := ?_)
        refine WL.skip (d := 44) (k := ?_)
        refine WL.skip (d := 45) (k := ?_)
        refine WL.skip (d := 46) (k := ?_)
        refine WL.skip (d := 47) (k := ?_)
        refine WL.skip (d := 48) (k := ?_)
        refine WL.op (d := 49) (.bool false) (k := ?_)
        refine WL.op (d := 50) (.bool false) (k := ?_)
        refine WL.skip (d := 51) (k := ?_)
        refine WL.skip (d := 52) (k := ?_)
        refine WL.skip (d := 53) (k := ?_)
        refine WL.skip (d := 54) (k := ?_)
        refine WL.skip (d := 55) (k := ?_)
        refine WL.op (d := 56) (.bool false) (k := ?_)
        refine WL.op (d := 57) (.bool false) (k := ?_)
        refine WL.skip (d := 58) (k := ?_)
        refine WL.skip (d := 59) (k := ?_)
        refine WL.skip (d := 60) (k := ?_)
        refine WL.skip (d := 61) (k := ?_)
        refine WL.skip (d := 62) (k := ?_)
        refine WL.op (d := 63) (.bool false) (k := ?_)
        refine WL.op (d := 4) (.bool false) (k := ?_)
        refine WL.nil ?_
        refine WX.seqN ?_
        refine WC.ret ?_
        refine WX.ret (rs := [.tmp 4]) [.bool false] (.bool false) ⟨(by kernel_rfl), trivial⟩ (k := ?_)
        exact ⟨ret_bool (same_ne fun e => ph36 (congrArg PCmd.kind e)), K⟩
set_option maxRecDepth 100000 in
set_option maxHeartbeats 4000000 in
theorem sBare_c (c : GCmd) (w : World) : Calls Tryd.prog 44 #[c.val] w fun e w' => e = .returned (GCmd.bare c).val ∧ Adds w w' := by
  have K : Keeps (fun _ => False) w w := Keeps.refl _ w
  refine Calls.start Tryd.func44 rfl (by kernel_rfl) ?_
  refine WC.seq ?_
  refine WC.region ?_
  refine WL.new (d := 1) (T := 42) (Value.cells (GCmd.val c)) (k := fun b1 w2 g3 hb4 k5 => ?_)
  have z6 := Nat.le_trans K.size g3
  replace K := K.trans (k5.any _)
  refine WL.new (d := 2) (T := 42) #[.int .i64 0, .int .i64 0, .int .i64 0, .int .i64 0, .int .i64 0, .int .i64 0, .int .i64 0, .bool false, .int .i64 0, .int .i64 0, .int .i64 0, .int .i64 0, .int .i64 0, .int .i64 0, .slice none 0 0] (k := fun b7 w8 g9 hb10 k11 => ?_)
  have z12 := Nat.le_trans K.size g9
  have n13 : b1 ≠ b7 := Nat.ne_of_lt (Nat.lt_of_lt_of_le (lt_of_heap hb4) g9)
  replace hb4 := k11.heap hb4 id
  replace K := K.trans (k11.any _)
  refine WL.nil ?_
  refine WX.seqN ?_
  refine WC.seq ?_
  refine WC.seq ?_
  refine WC.region ?_
  refine WL.op (d := 3) (.pointer (some ⟨b1, 0, none⟩)) (k := ?_)
  refine WL.load (v := .int .i64 c.p.kind) (ld1 (T := 3) (i := 0) hb4) (k := ?_)
  refine WL.nil ?_
  refine WX.seqN ?_
  refine WC.block ?_
  refine WC.seq ?_
  refine WC.region ?_
  refine WL.op (d := 6) (.bool (c.p.kind == 1)) (k := ?_)
  refine WL.op (d := 5) (.bool (c.p.kind == 1)) (k := ?_)
  refine WL.nil ?_
  refine WX.seqN ?_
  refine WC.cond (b := c.p.kind == 1) (ht := fun h14 => ?_) (hf := fun h14 => ?_)
  · have ph14 := eq_of_beq h14
    refine WC.seq ?_
    refine WC.region ?_
    refine WL.op (d := 7) (.pointer (some ⟨b1, 0, none⟩)) (k := ?_)
    refine WL.load (v := .int .i64 c.p.kind) (ld1 (T := 3) (i := 0) hb4) (k := ?_)
    refine WL.op (d := 9) (.pointer (some ⟨b1, 1, none⟩)) (k := ?_)
    refine WL.load (v := GOp.val c.p.op) (ldN (T := 39) (i := 1) (m := 10) (l := (Value.cells (GOp.val c.p.op)).toList) hb4) (k := ?_)
    refine WL.op (d := 11) (.agg #[.int .i64 c.p.kind, .int .i64 c.p.op.kind, .int .i64 c.p.op.task.id, .int .i64 c.p.op.task.c, .int .i64 c.p.op.task.d, .int .i64 c.p.op.task.t, .int .i64 c.p.op.task.m, .bool c.p.op.sv, .int .i64 c.p.op.id, .int .i64 c.p.op.c, .int .i64 c.p.op.m, .int .i64 0, .int .i64 0, .int .i64 0, .slice none 0 0]) (k := ?_)
    refine WL.store (v := .agg #[.int .i64 c.p.kind, .int .i64 c.p.op.kind, .int .i64 c.p.op.task.id, .int .i64 c.p.op.task.c, .int .i64 c.p.op.task.d, .int .i64 c.p.op.task.t, .int .i64 c.p.op.task.m, .bool c.p.op.sv, .int .i64 c.p.op.id, .int .i64 c.p.op.c, .int .i64 c.p.op.m, .int .i64 0, .int .i64 0, .int .i64 0, .slice none 0 0]) (i := 0) (cs' := #[.int .i64 c.p.kind, .int .i64 c.p.op.kind, .int .i64 c.p.op.task.id, .int .i64 c.p.op.task.c, .int .i64 c.p.op.task.d, .int .i64 c.p.op.task.t, .int .i64 c.p.op.task.m, .bool c.p.op.sv, .int .i64 c.p.op.id, .int .i64 c.p.op.c, .int .i64 c.p.op.m, .int .i64 0, .int .i64 0, .int .i64 0, .slice none 0 0]) hb10 (k := fun w15 hb16 k17 => ?_)
    replace hb4 := k17.heap hb4 n13
    replace K := K.trans' k17 (fun i hi e => absurd (e ▸ hi) (Nat.not_lt.2 z12))
    clear hb10
    refine WL.nil ?_
    refine WX.seqN ?_
    refine WC.ret ?_
    refine WX.blockR ?_
    refine WX.seqR ?_
    refine WX.ret (rs := [.cell 2 42]) [.agg #[.int .i64 c.p.kind, .int .i64 c.p.op.kind, .int .i64 c.p.op.task.id, .int .i64 c.p.op.task.c, .int .i64 c.p.op.task.d, .int .i64 c.p.op.task.t, .int .i64 c.p.op.task.m, .bool c.p.op.sv, .int .i64 c.p.op.id, .int .i64 c.p.op.c, .int .i64 c.p.op.m, .int .i64 0, .int .i64 0, .int .i64 0, .slice none 0 0]] (.agg #[.int .i64 c.p.kind, .int .i64 c.p.op.kind, .int .i64 c.p.op.task.id, .int .i64 c.p.op.task.c, .int .i64 c.p.op.task.d, .int .i64 c.p.op.task.t, .int .i64 c.p.op.task.m, .bool c.p.op.sv, .int .i64 c.p.op.id, .int .i64 c.p.op.c, .int .i64 c.p.op.m, .int .i64 0, .int .i64 0, .int .i64 0, .slice none 0 0]) ⟨⟨_, (by kernel_rfl), ldN (T := 42) (i := 0) (m := 15) (l := [.int .i64 c.p.kind, .int .i64 c.p.op.kind, .int .i64 c.p.op.task.id, .int .i64 c.p.op.task.c, .int .i64 c.p.op.task.d, .int .i64 c.p.op.task.t, .int .i64 c.p.op.task.m, .bool c.p.op.sv, .int .i64 c.p.op.id, .int .i64 c.p.op.c, .int .i64 c.p.op.m, .int .i64 0, .int .i64 0, .int .i64 0, .slice none 0 0]) hb16⟩, trivial⟩ (k := ?_)
    exact ⟨by simp [GCmd.bare, PCmd.bare, GOp.zero, ph14], K⟩
  · have ph14 := ne_of_beq_false h14
    refine WC.seq ?_
    refine WC.seq ?_
    refine WC.region ?_
    refine WL.op (d := 13) (.bool (c.p.kind == 2)) (k := ?_)
    refine WL.op (d := 12) (.bool (c.p.kind == 2)) (k := ?_)
    refine WL.nil ?_
    refine WX.seqN ?_
    refine WC.cond (b := c.p.kind == 2) (ht := fun h18 => ?_) (hf := fun h18 => ?_)
    · have ph18 := eq_of_beq h18
      refine WC.skip ?_
      refine WX.seqN ?_
      refine WC.rw (t := 12) (v := .bool true) (congrArg Value.bool h18) (k := ?_)
      refine WC.condT (k := ?_)
      refine WC.seq ?_
      refine WC.region ?_
      refine WL.op (d := 15) (.pointer (some ⟨b1, 0, none⟩)) (k := ?_)
      refine WL.load (v := .int .i64 c.p.kind) (ld1 (T := 3) (i := 0) hb4) (k := ?_)
      refine WL.op (d := 17) (.pointer (some ⟨b1, 11, none⟩)) (k := ?_)
      refine WL.load (v := .int .i64 c.p.id) (ld1 (T := 3) (i := 11) hb4) (k := ?_)
      refine WL.op (d := 19) (.pointer (some ⟨b1, 12, none⟩)) (k := ?_)
      refine WL.load (v := .int .i64 c.p.work) (ld1 (T := 2) (i := 12) hb4) (k := ?_)
      refine WL.op (d := 21) (.agg #[.int .i64 c.p.kind, .int .i64 0, .int .i64 0, .int .i64 0, .int .i64 0, .int .i64 0, .int .i64 0, .bool false, .int .i64 0, .int .i64 0, .int .i64 0, .int .i64 c.p.id, .int .i64 c.p.work, .int .i64 0, .slice none 0 0]) (k := ?_)
      refine WL.store (v := .agg #[.int .i64 c.p.kind, .int .i64 0, .int .i64 0, .int .i64 0, .int .i64 0, .int .i64 0, .int .i64 0, .bool false, .int .i64 0, .int .i64 0, .int .i64 0, .int .i64 c.p.id, .int .i64 c.p.work, .int .i64 0, .slice none 0 0]) (i := 0) (cs' := #[.int .i64 c.p.kind, .int .i64 0, .int .i64 0, .int .i64 0, .int .i64 0, .int .i64 0, .int .i64 0, .bool false, .int .i64 0, .int .i64 0, .int .i64 0, .int .i64 c.p.id, .int .i64 c.p.work, .int .i64 0, .slice none 0 0]) hb10 (k := fun w19 hb20 k21 => ?_)
      replace hb4 := k21.heap hb4 n13
      replace K := K.trans' k21 (fun i hi e => absurd (e ▸ hi) (Nat.not_lt.2 z12))
      clear hb10
      refine WL.nil ?_
      refine WX.seqN ?_
      refine WC.ret ?_
      refine WX.blockR ?_
      refine WX.seqR ?_
      refine WX.ret (rs := [.cell 2 42]) [.agg #[.int .i64 c.p.kind, .int .i64 0, .int .i64 0, .int .i64 0, .int .i64 0, .int .i64 0, .int .i64 0, .bool false, .int .i64 0, .int .i64 0, .int .i64 0, .int .i64 c.p.id, .int .i64 c.p.work, .int .i64 0, .slice none 0 0]] (.agg #[.int .i64 c.p.kind, .int .i64 0, .int .i64 0, .int .i64 0, .int .i64 0, .int .i64 0, .int .i64 0, .bool false, .int .i64 0, .int .i64 0, .int .i64 0, .int .i64 c.p.id, .int .i64 c.p.work, .int .i64 0, .slice none 0 0]) ⟨⟨_, (by kernel_rfl), ldN (T := 42) (i := 0) (m := 15) (l := [.int .i64 c.p.kind, .int .i64 0, .int .i64 0, .int .i64 0, .int .i64 0, .int .i64 0, .int .i64 0, .bool false, .int .i64 0, .int .i64 0, .int .i64 0, .int .i64 c.p.id, .int .i64 c.p.work, .int .i64 0, .slice none 0 0]) hb20⟩, trivial⟩ (k := ?_)
      exact ⟨by simp [GCmd.bare, PCmd.bare, GOp.zero, ph14, ph18], K⟩
    · have ph18 := ne_of_beq_false h18
      refine WC.region ?_
      refine WL.op (d := 14) (.bool (c.p.kind == 3)) (k := ?_)
      refine WL.op (d := 12) (.bool (c.p.kind == 3)) (k := ?_)
      refine WL.nil ?_
      refine WX.seqN ?_
      refine WC.cond (b := c.p.kind == 3) (ht := fun h22 => ?_) (hf := fun h22 => ?_)
      · have ph22 := eq_of_beq h22
        refine WC.seq ?_
        refine WC.region ?_
        refine WL.op (d := 15) (.pointer (some ⟨b1, 0, none⟩)) (k := ?_)
        refine WL.load (v := .int .i64 c.p.kind) (ld1 (T := 3) (i := 0) hb4) (k := ?_)
        refine WL.op (d := 17) (.pointer (some ⟨b1, 11, none⟩)) (k := ?_)
        refine WL.load (v := .int .i64 c.p.id) (ld1 (T := 3) (i := 11) hb4) (k := ?_)
        refine WL.op (d := 19) (.pointer (some ⟨b1, 12, none⟩)) (k := ?_)
        refine WL.load (v := .int .i64 c.p.work) (ld1 (T := 2) (i := 12) hb4) (k := ?_)
        refine WL.op (d := 21) (.agg #[.int .i64 c.p.kind, .int .i64 0, .int .i64 0, .int .i64 0, .int .i64 0, .int .i64 0, .int .i64 0, .bool false, .int .i64 0, .int .i64 0, .int .i64 0, .int .i64 c.p.id, .int .i64 c.p.work, .int .i64 0, .slice none 0 0]) (k := ?_)
        refine WL.store (v := .agg #[.int .i64 c.p.kind, .int .i64 0, .int .i64 0, .int .i64 0, .int .i64 0, .int .i64 0, .int .i64 0, .bool false, .int .i64 0, .int .i64 0, .int .i64 0, .int .i64 c.p.id, .int .i64 c.p.work, .int .i64 0, .slice none 0 0]) (i := 0) (cs' := #[.int .i64 c.p.kind, .int .i64 0, .int .i64 0, .int .i64 0, .int .i64 0, .int .i64 0, .int .i64 0, .bool false, .int .i64 0, .int .i64 0, .int .i64 0, .int .i64 c.p.id, .int .i64 c.p.work, .int .i64 0, .slice none 0 0]) hb10 (k := fun w23 hb24 k25 => ?_)
        replace hb4 := k25.heap hb4 n13
        replace K := K.trans' k25 (fun i hi e => absurd (e ▸ hi) (Nat.not_lt.2 z12))
        clear hb10
        refine WL.nil ?_
        refine WX.seqN ?_
        refine WC.ret ?_
        refine WX.blockR ?_
        refine WX.seqR ?_
        refine WX.ret (rs := [.cell 2 42]) [.agg #[.int .i64 c.p.kind, .int .i64 0, .int .i64 0, .int .i64 0, .int .i64 0, .int .i64 0, .int .i64 0, .bool false, .int .i64 0, .int .i64 0, .int .i64 0, .int .i64 c.p.id, .int .i64 c.p.work, .int .i64 0, .slice none 0 0]] (.agg #[.int .i64 c.p.kind, .int .i64 0, .int .i64 0, .int .i64 0, .int .i64 0, .int .i64 0, .int .i64 0, .bool false, .int .i64 0, .int .i64 0, .int .i64 0, .int .i64 c.p.id, .int .i64 c.p.work, .int .i64 0, .slice none 0 0]) ⟨⟨_, (by kernel_rfl), ldN (T := 42) (i := 0) (m := 15) (l := [.int .i64 c.p.kind, .int .i64 0, .int .i64 0, .int .i64 0, .int .i64 0, .int .i64 0, .int .i64 0, .bool false, .int .i64 0, .int .i64 0, .int .i64 0, .int .i64 c.p.id, .int .i64 c.p.work, .int .i64 0, .slice none 0 0]) hb24⟩, trivial⟩ (k := ?_)
        exact ⟨by simp [GCmd.bare, PCmd.bare, GOp.zero, ph14, ph18, ph22], K⟩
      · have ph22 := ne_of_beq_false h22
        refine WC.seq ?_
        refine WC.seq ?_
        refine WC.region ?_
        refine WL.op (d := 23) (.bool (c.p.kind == 4)) (k := ?_)
        refine WL.op (d := 22) (.bool (c.p.kind == 4)) (k := ?_)
        refine WL.nil ?_
        refine WX.seqN ?_
        refine WC.cond (b := c.p.kind == 4) (ht := fun h26 => ?_) (hf := fun h26 => ?_)
        · have ph26 := eq_of_beq h26
          refine WC.skip ?_
          refine WX.seqN ?_
          refine WC.rw (t := 22) (v := .bool true) (congrArg Value.bool h26) (k := ?_)
          refine WC.condT (k := ?_)
          refine WC.seq ?_
          refine WC.region ?_
          refine WL.op (d := 25) (.pointer (some ⟨b1, 0, none⟩)) (k := ?_)
          refine WL.load (v := .int .i64 c.p.kind) (ld1 (T := 3) (i := 0) hb4) (k := ?_)
          refine WL.op (d := 27) (.pointer (some ⟨b1, 13, none⟩)) (k := ?_)
          refine WL.load (v := .int .i64 c.p.n) (ld1 (T := 3) (i := 13) hb4) (k := ?_)
          refine WL.op (d := 29) (.agg #[.int .i64 c.p.kind, .int .i64 0, .int .i64 0, .int .i64 0, .int .i64 0, .int .i64 0, .int .i64 0, .bool false, .int .i64 0, .int .i64 0, .int .i64 0, .int .i64 0, .int .i64 0, .int .i64 c.p.n, .slice none 0 0]) (k := ?_)
          refine WL.store (v := .agg #[.int .i64 c.p.kind, .int .i64 0, .int .i64 0, .int .i64 0, .int .i64 0, .int .i64 0, .int .i64 0, .bool false, .int .i64 0, .int .i64 0, .int .i64 0, .int .i64 0, .int .i64 0, .int .i64 c.p.n, .slice none 0 0]) (i := 0) (cs' := #[.int .i64 c.p.kind, .int .i64 0, .int .i64 0, .int .i64 0, .int .i64 0, .int .i64 0, .int .i64 0, .bool false, .int .i64 0, .int .i64 0, .int .i64 0, .int .i64 0, .int .i64 0, .int .i64 c.p.n, .slice none 0 0]) hb10 (k := fun w27 hb28 k29 => ?_)
          replace hb4 := k29.heap hb4 n13
          replace K := K.trans' k29 (fun i hi e => absurd (e ▸ hi) (Nat.not_lt.2 z12))
          clear hb10
          refine WL.nil ?_
          refine WX.seqN ?_
          refine WC.ret ?_
          refine WX.blockR ?_
          refine WX.seqR ?_
          refine WX.ret (rs := [.cell 2 42]) [.agg #[.int .i64 c.p.kind, .int .i64 0, .int .i64 0, .int .i64 0, .int .i64 0, .int .i64 0, .int .i64 0, .bool false, .int .i64 0, .int .i64 0, .int .i64 0, .int .i64 0, .int .i64 0, .int .i64 c.p.n, .slice none 0 0]] (.agg #[.int .i64 c.p.kind, .int .i64 0, .int .i64 0, .int .i64 0, .int .i64 0, .int .i64 0, .int .i64 0, .bool false, .int .i64 0, .int .i64 0, .int .i64 0, .int .i64 0, .int .i64 0, .int .i64 c.p.n, .slice none 0 0]) ⟨⟨_, (by kernel_rfl), ldN (T := 42) (i := 0) (m := 15) (l := [.int .i64 c.p.kind, .int .i64 0, .int .i64 0, .int .i64 0, .int .i64 0, .int .i64 0, .int .i64 0, .bool false, .int .i64 0, .int .i64 0, .int .i64 0, .int .i64 0, .int .i64 0, .int .i64 c.p.n, .slice none 0 0]) hb28⟩, trivial⟩ (k := ?_)
          exact ⟨by simp [GCmd.bare, PCmd.bare, GOp.zero, ph14, ph18, ph22, ph26], K⟩
        · have ph26 := ne_of_beq_false h26
          refine WC.region ?_
          refine WL.op (d := 24) (.bool (c.p.kind == 7)) (k := ?_)
          refine WL.op (d := 22) (.bool (c.p.kind == 7)) (k := ?_)
          refine WL.nil ?_
          refine WX.seqN ?_
          refine WC.cond (b := c.p.kind == 7) (ht := fun h30 => ?_) (hf := fun h30 => ?_)
          · have ph30 := eq_of_beq h30
            refine WC.seq ?_
            refine WC.region ?_
            refine WL.op (d := 25) (.pointer (some ⟨b1, 0, none⟩)) (k := ?_)
            refine WL.load (v := .int .i64 c.p.kind) (ld1 (T := 3) (i := 0) hb4) (k := ?_)
            refine WL.op (d := 27) (.pointer (some ⟨b1, 13, none⟩)) (k := ?_)
            refine WL.load (v := .int .i64 c.p.n) (ld1 (T := 3) (i := 13) hb4) (k := ?_)
            refine WL.op (d := 29) (.agg #[.int .i64 c.p.kind, .int .i64 0, .int .i64 0, .int .i64 0, .int .i64 0, .int .i64 0, .int .i64 0, .bool false, .int .i64 0, .int .i64 0, .int .i64 0, .int .i64 0, .int .i64 0, .int .i64 c.p.n, .slice none 0 0]) (k := ?_)
            refine WL.store (v := .agg #[.int .i64 c.p.kind, .int .i64 0, .int .i64 0, .int .i64 0, .int .i64 0, .int .i64 0, .int .i64 0, .bool false, .int .i64 0, .int .i64 0, .int .i64 0, .int .i64 0, .int .i64 0, .int .i64 c.p.n, .slice none 0 0]) (i := 0) (cs' := #[.int .i64 c.p.kind, .int .i64 0, .int .i64 0, .int .i64 0, .int .i64 0, .int .i64 0, .int .i64 0, .bool false, .int .i64 0, .int .i64 0, .int .i64 0, .int .i64 0, .int .i64 0, .int .i64 c.p.n, .slice none 0 0]) hb10 (k := fun w31 hb32 k33 => ?_)
            replace hb4 := k33.heap hb4 n13
            replace K := K.trans' k33 (fun i hi e => absurd (e ▸ hi) (Nat.not_lt.2 z12))
            clear hb10
            refine WL.nil ?_
            refine WX.seqN ?_
            refine WC.ret ?_
            refine WX.blockR ?_
            refine WX.seqR ?_
            refine WX.ret (rs := [.cell 2 42]) [.agg #[.int .i64 c.p.kind, .int .i64 0, .int .i64 0, .int .i64 0, .int .i64 0, .int .i64 0, .int .i64 0, .bool false, .int .i64 0, .int .i64 0, .int .i64 0, .int .i64 0, .int .i64 0, .int .i64 c.p.n, .slice none 0 0]] (.agg #[.int .i64 c.p.kind, .int .i64 0, .int .i64 0, .int .i64 0, .int .i64 0, .int .i64 0, .int .i64 0, .bool false, .int .i64 0, .int .i64 0, .int .i64 0, .int .i64 0, .int .i64 0, .int .i64 c.p.n, .slice none 0 0]) ⟨⟨_, (by kernel_rfl), ldN (T := 42) (i := 0) (m := 15) (l := [.int .i64 c.p.kind, .int .i64 0, .int .i64 0, .int .i64 0, .int .i64 0, .int .i64 0, .int .i64 0, .bool false, .int .i64 0, .int .i64 0, .int .i64 0, .int .i64 0, .int .i64 0, .int .i64 c.p.n, .slice none 0 0]) hb32⟩, trivial⟩ (k := ?_)
            exact ⟨by simp [GCmd.bare, PCmd.bare, GOp.zero, ph14, ph18, ph22, ph26, ph30], K⟩
          · have ph30 := ne_of_beq_false h30
            refine WC.seq ?_
            refine WC.region ?_
            refine WL.op (d := 31) (.bool (c.p.kind == 5)) (k := ?_)
            refine WL.op (d := 30) (.bool (c.p.kind == 5)) (k := ?_)
            refine WL.nil ?_
            refine WX.seqN ?_
            refine WC.cond (b := c.p.kind == 5) (ht := fun h34 => ?_) (hf := fun h34 => ?_)
            · have ph34 := eq_of_beq h34
              refine WC.seq ?_
              refine WC.region ?_
              refine WL.op (d := 32) (.pointer (some ⟨b1, 0, none⟩)) (k := ?_)
              refine WL.load (v := .int .i64 c.p.kind) (ld1 (T := 3) (i := 0) hb4) (k := ?_)
              refine WL.op (d := 34) (.pointer (some ⟨b1, 11, none⟩)) (k := ?_)
              refine WL.load (v := .int .i64 c.p.id) (ld1 (T := 3) (i := 11) hb4) (k := ?_)
              refine WL.op (d := 36) (.agg #[.int .i64 c.p.kind, .int .i64 0, .int .i64 0, .int .i64 0, .int .i64 0, .int .i64 0, .int .i64 0, .bool false, .int .i64 0, .int .i64 0, .int .i64 0, .int .i64 c.p.id, .int .i64 0, .int .i64 0, .slice none 0 0]) (k := ?_)
              refine WL.store (v := .agg #[.int .i64 c.p.kind, .int .i64 0, .int .i64 0, .int .i64 0, .int .i64 0, .int .i64 0, .int .i64 0, .bool false, .int .i64 0, .int .i64 0, .int .i64 0, .int .i64 c.p.id, .int .i64 0, .int .i64 0, .slice none 0 0]) (i := 0) (cs' := #[.int .i64 c.p.kind, .int .i64 0, .int .i64 0, .int .i64 0, .int .i64 0, .int .i64 0, .int .i64 0, .bool false, .int .i64 0, .int .i64 0, .int .i64 0, .int .i64 c.p.id, .int .i64 0, .int .i64 0, .slice none 0 0]) hb10 (k := fun w35 hb36 k37 => ?_)
              replace hb4 := k37.heap hb4 n13
              replace K := K.trans' k37 (fun i hi e => absurd (e ▸ hi) (Nat.not_lt.2 z12))
              clear hb10
              refine WL.nil ?_
              refine WX.seqN ?_
              refine WC.ret ?_
              refine WX.blockR ?_
              refine WX.seqR ?_
              refine WX.ret (rs := [.cell 2 42]) [.agg #[.int .i64 c.p.kind, .int .i64 0, .int .i64 0, .int .i64 0, .int .i64 0, .int .i64 0, .int .i64 0, .bool false, .int .i64 0, .int .i64 0, .int .i64 0, .int .i64 c.p.id, .int .i64 0, .int .i64 0, .slice none 0 0]] (.agg #[.int .i64 c.p.kind, .int .i64 0, .int .i64 0, .int .i64 0, .int .i64 0, .int .i64 0, .int .i64 0, .bool false, .int .i64 0, .int .i64 0, .int .i64 0, .int .i64 c.p.id, .int .i64 0, .int .i64 0, .slice none 0 0]) ⟨⟨_, (by kernel_rfl), ldN (T := 42) (i := 0) (m := 15) (l := [.int .i64 c.p.kind, .int .i64 0, .int .i64 0, .int .i64 0, .int .i64 0, .int .i64 0, .int .i64 0, .bool false, .int .i64 0, .int .i64 0, .int .i64 0, .int .i64 c.p.id, .int .i64 0, .int .i64 0, .slice none 0 0]) hb36⟩, trivial⟩ (k := ?_)
              exact ⟨by simp [GCmd.bare, PCmd.bare, GOp.zero, ph14, ph18, ph22, ph26, ph30, ph34], K⟩
            · have ph34 := ne_of_beq_false h34
              refine WC.seq ?_
              refine WC.region ?_
              refine WL.op (d := 38) (.bool (c.p.kind == 8)) (k := ?_)
              refine WL.op (d := 37) (.bool (c.p.kind == 8)) (k := ?_)
              refine WL.nil ?_
              refine WX.seqN ?_
              refine WC.cond (b := c.p.kind == 8) (ht := fun h38 => ?_) (hf := fun h38 => ?_)
              · have ph38 := eq_of_beq h38
                refine WC.seq ?_
                refine WC.region ?_
                refine WL.op (d := 39) (.pointer (some ⟨b1, 0, none⟩)) (k := ?_)
                refine WL.load (v := .int .i64 c.p.kind) (ld1 (T := 3) (i := 0) hb4) (k := ?_)
                refine WL.op (d := 41) (.pointer (some ⟨b1, 14, none⟩)) (k := ?_)
                refine WL.load (v := .slice c.A c.p.fs.length c.cap) (ld1 (T := 40) (i := 14) hb4) (k := ?_)
                refine WL.op (d := 43) (.agg #[.int .i64 c.p.kind, .int .i64 0, .int .i64 0, .int .i64 0, .int .i64 0, .int .i64 0, .int .i64 0, .bool false, .int .i64 0, .int .i64 0, .int .i64 0, .int .i64 0, .int .i64 0, .int .i64 0, .slice c.A c.p.fs.length c.cap]) (k := ?_)
                refine WL.store (v := .agg #[.int .i64 c.p.kind, .int .i64 0, .int .i64 0, .int .i64 0, .int .i64 0, .int .i64 0, .int .i64 0, .bool false, .int .i64 0, .int .i64 0, .int .i64 0, .int .i64 0, .int .i64 0, .int .i64 0, .slice c.A c.p.fs.length c.cap]) (i := 0) (cs' := #[.int .i64 c.p.kind, .int .i64 0, .int .i64 0, .int .i64 0, .int .i64 0, .int .i64 0, .int .i64 0, .bool false, .int .i64 0, .int .i64 0, .int .i64 0, .int .i64 0, .int .i64 0, .int .i64 0, .slice c.A c.p.fs.length c.cap]) hb10 (k := fun w39 hb40 k41 => ?_)
                replace hb4 := k41.heap hb4 n13
                replace K := K.trans' k41 (fun i hi e => absurd (e ▸ hi) (Nat.not_lt.2 z12))
                clear hb10
                refine WL.nil ?_
                refine WX.seqN ?_
                refine WC.ret ?_
                refine WX.blockR ?_
                refine WX.seqR ?_
                refine WX.ret (rs := [.cell 2 42]) [.agg #[.int .i64 c.p.kind, .int .i64 0, .int .i64 0, .int .i64 0, .int .i64 0, .int .i64 0, .int .i64 0, .bool false, .int .i64 0, .int .i64 0, .int .i64 0, .int .i64 0, .int .i64 0, .int .i64 0, .slice c.A c.p.fs.length c.cap]] (.agg #[.int .i64 c.p.kind, .int .i64 0, .int .i64 0, .int .i64 0, .int .i64 0, .int .i64 0, .int .i64 0, .bool false, .int .i64 0, .int .i64 0, .int .i64 0, .int .i64 0, .int .i64 0, .int .i64 0, .slice c.A c.p.fs.length c.cap]) ⟨⟨_, (by kernel_rfl), ldN (T := 42) (i := 0) (m := 15) (l := [.int .i64 c.p.kind, .int .i64 0, .int .i64 0, .int .i64 0, .int .i64 0, .int .i64 0, .int .i64 0, .bool false, .int .i64 0, .int .i64 0, .int .i64 0, .int .i64 0, .int .i64 0, .int .i64 0, .slice c.A c.p.fs.length c.cap]) hb40⟩, trivial⟩ (k := ?_)
                exact ⟨by simp [GCmd.bare, PCmd.bare, GOp.zero, ph14, ph18, ph22, ph26, ph30, ph34, ph38], K⟩
              · have ph38 := ne_of_beq_false h38
                refine WC.skip ?_
                refine WX.blockN ?_
                refine WX.seqN ?_
                refine WC.seq ?_
                refine WC.region ?_
                refine WL.op (d := 44) (.pointer (some ⟨b1, 0, none⟩)) (k := ?_)
                refine WL.load (v := .int .i64 c.p.kind) (ld1 (T := 3) (i := 0) hb4) (k := ?_)
                refine WL.op (d := 46) (.agg #[.int .i64 c.p.kind, .int .i64 0, .int .i64 0, .int .i64 0, .int .i64 0, .int .i64 0, .int .i64 0, .bool false, .int .i64 0, .int .i64 0, .int .i64 0, .int .i64 0, .int .i64 0, .int .i64 0, .slice none 0 0]) (k := ?_)
                refine WL.store (v := .agg #[.int .i64 c.p.kind, .int .i64 0, .int .i64 0, .int .i64 0, .int .i64 0, .int .i64 0, .int .i64 0, .bool false, .int .i64 0, .int .i64 0, .int .i64 0, .int .i64 0, .int .i64 0, .int .i64 0, .slice none 0 0]) (i := 0) (cs' := #[.int .i64 c.p.kind, .int .i64 0, .int .i64 0, .int .i64 0, .int .i64 0, .int .i64 0, .int .i64 0, .bool false, .int .i64 0, .int .i64 0, .int .i64 0, .int .i64 0, .int .i64 0, .int .i64 0, .slice none 0 0]) hb10 (k := fun w42 hb43 k44 => ?_)
                replace hb4 := k44.heap hb4 n13
                replace K := K.trans' k44 (fun i hi e => absurd (e ▸ hi) (Nat.not_lt.2 z12))
                clear hb10
                refine WL.nil ?_
                refine WX.seqN ?_
                refine WC.ret ?_
                refine WX.ret (rs := [.cell 2 42]) [.agg #[.int .i64 c.p.kind, .int .i64 0, .int .i64 0, .int .i64 0, .int .i64 0, .int .i64 0, .int .i64 0, .bool false, .int .i64 0, .int .i64 0, .int .i64 0, .int .i64 0, .int .i64 0, .int .i64 0, .slice none 0 0]] (.agg #[.int .i64 c.p.kind, .int .i64 0, .int .i64 0, .int .i64 0, .int .i64 0, .int .i64 0, .int .i64 0, .bool false, .int .i64 0, .int .i64 0, .int .i64 0, .int .i64 0, .int .i64 0, .int .i64 0, .slice none 0 0]) ⟨⟨_, (by kernel_rfl), ldN (T := 42) (i := 0) (m := 15) (l := [.int .i64 c.p.kind, .int .i64 0, .int .i64 0, .int .i64 0, .int .i64 0, .int .i64 0, .int .i64 0, .bool false, .int .i64 0, .int .i64 0, .int .i64 0, .int .i64 0, .int .i64 0, .int .i64 0, .slice none 0 0]) hb43⟩, trivial⟩ (k := ?_)
                exact ⟨by simp [GCmd.bare, PCmd.bare, GOp.zero, ph14, ph18, ph22, ph26, ph30, ph34, ph38], K⟩
set_option maxRecDepth 100000 in
set_option maxHeartbeats 4000000 in
theorem sCheck_c {c : GCmd} {w : World} (hc : SlAt fateC 2 89 c.A c.p.fs w) (lc : c.p.fs.length ≤ 1000000000) : Calls Tryd.prog 25 #[c.val] w fun e w' => e = .returned (.bool (cokB c.p)) ∧ Adds w w' := by
  have K : Keeps (fun _ => False) w w := Keeps.refl _ w
  refine Calls.start Tryd.func25 rfl (by kernel_rfl) ?_
  refine WC.seq ?_
  refine WC.region ?_
  refine WL.new (d := 1) (T := 42) (Value.cells (GCmd.val c)) (k := fun b1 w2 g3 hb4 k5 => ?_)
  have z6 := Nat.le_trans K.size g3
  replace K := K.trans (k5.any _)
  refine WL.op (d := 2) (.bool false) (k := ?_)
  refine WL.nil ?_
  refine WX.seqN ?_
  refine WC.seq ?_
  refine WC.region ?_
  refine WL.op (d := 3) (.func (.func 41) #[] #[]) (k := ?_)
  refine WL.nil ?_
  refine WX.seqN ?_
  refine WC.seq ?_
  refine WC.block ?_
  refine WC.seq ?_
  refine WC.quiet (k := ?_)
  refine WQ.load (v := GCmd.val c) (fun w_ k_ => ldN (T := 42) (i := 0) (m := 15) (l := (Value.cells (GCmd.val c)).toList) (k_.heap hb4 id)) (k := ?_)
  refine WQ.load (v := GCmd.val c) (fun w_ k_ => ldN (T := 42) (i := 0) (m := 15) (l := (Value.cells (GCmd.val c)).toList) (k_.heap hb4 id)) (k := ?_)
  have hb7 := bare_sl hc
  have bl8 := bare_le c
  refine WQ.callG (d := 7) (f := 44) (args := #[GCmd.val c]) (v := GCmd.val (GCmd.bare c)) (fun w_ k_ => sBare_c c w_) addsR (k := ?_)
  refine WQ.callG (d := 8) (f := 43) (args := #[GCmd.val c, GCmd.val (GCmd.bare c)]) (v := .bool (decide (c.p = (GCmd.bare c).p))) (fun w_ k_ => sSame_c (x := c) (y := (GCmd.bare c)) ((hc.adds K).adds k_) ((hb7.adds K).adds k_) (by omega) (by omega)) addsR (k := ?_)
  refine WQ.op (d := 9) (.bool (!(decide (c.p = (GCmd.bare c).p)))) (k := ?_)
  refine WQ.op (d := 10) (.bool (!(decide (c.p = (GCmd.bare c).p)))) (k := ?_)
  refine bsplit (!(decide (c.p = (GCmd.bare c).p))) (fun h9 => ?_) (fun h9 => ?_)
  · have h10 : (decide (c.p = (GCmd.bare c).p)) = false := Bool.not_inj (y := false) h9
    have ph10 := of_decide_eq_false h10
    refine WQ.rw (t := 10) (v := .bool true) (congrArg Value.bool h9) (k := ?_)
    refine WQ.skip (d := 11) (k := ?_)
    refine WQ.skip (d := 12) (k := ?_)
    refine WQ.skip (d := 13) (k := ?_)
    refine WQ.op (d := 14) (.bool true) (k := ?_)
    refine WQ.op (d := 15) (.bool true) (k := ?_)
    refine WQ.skip (d := 16) (k := ?_)
    refine WQ.skip (d := 17) (k := ?_)
    refine WQ.skip (d := 18) (k := ?_)
    refine WQ.op (d := 19) (.bool true) (k := ?_)
    refine WQ.op (d := 4) (.bool true) (k := ?_)
    refine WQ.nilX (fun w11 k12 => ?_)
    replace hb4 := k12.heap hb4 id
    replace K := K.trans (k12.any _)
    refine WX.seqN ?_
    refine WC.condT (k := ?_)
    refine WC.seq ?_
    refine WC.region ?_
    refine WL.op (d := 2) (.bool false) (k := ?_)
    refine WL.nil ?_
    refine WX.seqN ?_
    refine WC.ret ?_
    refine WX.blockR ?_
    refine WX.seqR ?_
    refine WX.ret (rs := [.tmp 2]) [.bool false] (.bool false) ⟨(by kernel_rfl), trivial⟩ (k := ?_)
    exact ⟨ret_bool (cok_ne ph10), K⟩
  · have h13 : (decide (c.p = (GCmd.bare c).p)) = true := Bool.not_inj (y := true) h9
    have ph13 := of_decide_eq_true h13
    refine WQ.rw (t := 10) (v := .bool false) (congrArg Value.bool h9) (k := ?_)
    refine WQ.op (d := 11) (.pointer (some ⟨b1, 0, none⟩)) (k := ?_)
    refine WQ.load (v := .int .i64 c.p.kind) (fun w_ k_ => ld1 (T := 3) (i := 0) (k_.heap hb4 id)) (k := ?_)
    refine WQ.op (d := 13) (.bool (decide (c.p.kind < 1))) (k := ?_)
    refine WQ.op (d := 14) (.bool (decide (c.p.kind < 1))) (k := ?_)
    refine WQ.op (d := 15) (.bool (decide (c.p.kind < 1))) (k := ?_)
    refine bsplit (decide (c.p.kind < 1)) (fun h14 => ?_) (fun h14 => ?_)
    · have ph14 := of_decide_eq_true h14
      refine WQ.rw (t := 15) (v := .bool true) (congrArg Value.bool h14) (k := ?_)
      refine WQ.skip (d := 16) (k := ?_)
      refine WQ.skip (d := 17) (k := ?_)
      refine WQ.skip (d := 18) (k := ?_)
      refine WQ.op (d := 19) (.bool true) (k := ?_)
      refine WQ.op (d := 4) (.bool true) (k := ?_)
      refine WQ.nilX (fun w15 k16 => ?_)
      replace hb4 := k16.heap hb4 id
      replace K := K.trans (k16.any _)
      refine WX.seqN ?_
      refine WC.condT (k := ?_)
      refine WC.seq ?_
      refine WC.region ?_
      refine WL.op (d := 2) (.bool false) (k := ?_)
      refine WL.nil ?_
      refine WX.seqN ?_
      refine WC.ret ?_
      refine WX.blockR ?_
      refine WX.seqR ?_
      refine WX.ret (rs := [.tmp 2]) [.bool false] (.bool false) ⟨(by kernel_rfl), trivial⟩ (k := ?_)
      exact ⟨ret_bool (cok_rng (fun k => by simp only [PCmd.rngs] at k; omega)), K⟩
    · have ph14 := of_decide_eq_false h14
      refine WQ.rw (t := 15) (v := .bool false) (congrArg Value.bool h14) (k := ?_)
      refine WQ.op (d := 16) (.pointer (some ⟨b1, 0, none⟩)) (k := ?_)
      refine WQ.load (v := .int .i64 c.p.kind) (fun w_ k_ => ld1 (T := 3) (i := 0) (k_.heap hb4 id)) (k := ?_)
      refine WQ.op (d := 18) (.bool (decide (c.p.kind > 9))) (k := ?_)
      refine WQ.op (d := 19) (.bool (decide (c.p.kind > 9))) (k := ?_)
      refine WQ.op (d := 4) (.bool (decide (c.p.kind > 9))) (k := ?_)
      refine WQ.nilX (fun w17 k18 => ?_)
      replace hb4 := k18.heap hb4 id
      replace K := K.trans (k18.any _)
      refine WX.seqN ?_
      refine WC.cond (b := decide (c.p.kind > 9)) (ht := fun h19 => ?_) (hf := fun h19 => ?_)
      · have ph19 := of_decide_eq_true h19
        refine WC.seq ?_
        refine WC.region ?_
        refine WL.op (d := 2) (.bool false) (k := ?_)
        refine WL.nil ?_
        refine WX.seqN ?_
        refine WC.ret ?_
        refine WX.blockR ?_
        refine WX.seqR ?_
        refine WX.ret (rs := [.tmp 2]) [.bool false] (.bool false) ⟨(by kernel_rfl), trivial⟩ (k := ?_)
        exact ⟨ret_bool (cok_rng (fun k => by simp only [PCmd.rngs] at k; omega)), K⟩
      · have ph19 := of_decide_eq_false h19
        refine WC.seq ?_
        refine WC.region ?_
        refine WL.op (d := 21) (.pointer (some ⟨b1, 0, none⟩)) (k := ?_)
        refine WL.load (v := .int .i64 c.p.kind) (ld1 (T := 3) (i := 0) hb4) (k := ?_)
        refine WL.op (d := 23) (.bool (c.p.kind == 1)) (k := ?_)
        refine WL.op (d := 20) (.bool (c.p.kind == 1)) (k := ?_)
        refine WL.nil ?_
        refine WX.seqN ?_
        refine WC.cond (b := c.p.kind == 1) (ht := fun h20 => ?_) (hf := fun h20 => ?_)
        · have ph20 := eq_of_beq h20
          refine WC.seq ?_
          refine WC.region ?_
          refine WL.op (d := 24) (.pointer (some ⟨b1, 1, none⟩)) (k := ?_)
          refine WL.load (v := GOp.val c.p.op) (ldN (T := 39) (i := 1) (m := 10) (l := (Value.cells (GOp.val c.p.op)).toList) hb4) (k := ?_)
          refine WL.callG (d := 26) (f := 45) (args := #[GOp.val c.p.op]) (pOCheck_c c.p.op w17) (k := fun e_ w21 h_ => ⟨.bool (decide (GOp.ok c.p.op)), h_.1, ?_⟩)
          have k22 := h_.2; clear h_
          replace hb4 := k22.heap hb4 id
          replace K := K.trans (k22.any _)
          refine WL.op (d := 2) (.bool (decide (GOp.ok c.p.op))) (k := ?_)
          refine WL.nil ?_
          refine WX.seqN ?_
          refine WC.ret ?_
          refine WX.blockR ?_
          refine WX.seqR ?_
          refine WX.ret (rs := [.tmp 2]) [.bool (decide (GOp.ok c.p.op))] (.bool (decide (GOp.ok c.p.op))) ⟨(by kernel_rfl), trivial⟩ (k := ?_)
          exact ⟨ret_bool (cok_op ph13 (by omega)), K⟩
        · have ph20 := ne_of_beq_false h20
          refine WC.skip ?_
          refine WX.blockN ?_
          refine WX.seqN ?_
          refine WC.seq ?_
          refine WC.region ?_
          refine WL.op (d := 27) (.pointer (some ⟨b1, 11, none⟩)) (k := ?_)
          refine WL.load (v := .int .i64 c.p.id) (ld1 (T := 3) (i := 11) hb4) (k := ?_)
          refine WL.callG (d := 29) (f := 42) (args := #[.int .i64 c.p.id, .int .i64 1023]) (sWithin_c c.p.id 1023 w17) (k := fun e_ w23 h_ => ⟨.bool (decide (0 ≤ c.p.id ∧ c.p.id ≤ 1023)), h_.1, ?_⟩)
          have k24 := h_.2; clear h_
          replace hb4 := k24.heap hb4 id
          replace K := K.trans (k24.any _)
          refine WL.op (d := 30) (.bool (decide (0 ≤ c.p.id ∧ c.p.id ≤ 1023))) (k := ?_)
          refine bsplit (decide (0 ≤ c.p.id ∧ c.p.id ≤ 1023)) (fun h25 => ?_) (fun h25 => ?_)
          · have ph25 := of_decide_eq_true h25
            refine WL.rw (t := 30) (v := .bool true) (congrArg Value.bool h25) (k := ?_)
            refine WL.op (d := 31) (.pointer (some ⟨b1, 12, none⟩)) (k := ?_)
            refine WL.load (v := .int .i64 c.p.work) (ld1 (T := 2) (i := 12) hb4) (k := ?_)
            refine WL.callG (d := 33) (f := 42) (args := #[.int .i64 c.p.work, .int .i64 2147483648]) (sWithin_c c.p.work 2147483648 w23) (k := fun e_ w26 h_ => ⟨.bool (decide (0 ≤ c.p.work ∧ c.p.work ≤ 2147483648)), h_.1, ?_⟩)
            have k27 := h_.2; clear h_
            replace hb4 := k27.heap hb4 id
            replace K := K.trans (k27.any _)
            refine WL.op (d := 34) (.bool (decide (0 ≤ c.p.work ∧ c.p.work ≤ 2147483648))) (k := ?_)
            refine WL.op (d := 35) (.bool (decide (0 ≤ c.p.work ∧ c.p.work ≤ 2147483648))) (k := ?_)
            refine bsplit (decide (0 ≤ c.p.work ∧ c.p.work ≤ 2147483648)) (fun h28 => ?_) (fun h28 => ?_)
            · have ph28 := of_decide_eq_true h28
              refine WL.rw (t := 35) (v := .bool true) (congrArg Value.bool h28) (k := ?_)
              refine WL.op (d := 36) (.pointer (some ⟨b1, 13, none⟩)) (k := ?_)
              refine WL.load (v := .int .i64 c.p.n) (ld1 (T := 3) (i := 13) hb4) (k := ?_)
              refine WL.callG (d := 38) (f := 42) (args := #[.int .i64 c.p.n, .int .i64 1048576]) (sWithin_c c.p.n 1048576 w26) (k := fun e_ w29 h_ => ⟨.bool (decide (0 ≤ c.p.n ∧ c.p.n ≤ 1048576)), h_.1, ?_⟩)
              have k30 := h_.2; clear h_
              replace hb4 := k30.heap hb4 id
              replace K := K.trans (k30.any _)
              refine WL.op (d := 39) (.bool (decide (0 ≤ c.p.n ∧ c.p.n ≤ 1048576))) (k := ?_)
              refine WL.op (d := 40) (.bool (decide (0 ≤ c.p.n ∧ c.p.n ≤ 1048576))) (k := ?_)
              refine bsplit (decide (0 ≤ c.p.n ∧ c.p.n ≤ 1048576)) (fun h31 => ?_) (fun h31 => ?_)
              · have ph31 := of_decide_eq_true h31
                refine WL.rw (t := 40) (v := .bool true) (congrArg Value.bool h31) (k := ?_)
                refine WL.op (d := 41) (.pointer (some ⟨b1, 14, none⟩)) (k := ?_)
                refine WL.load (v := .slice c.A c.p.fs.length c.cap) (ld1 (T := 40) (i := 14) hb4) (k := ?_)
                refine WL.op (d := 43) (.int .i64 (c.p.fs.length : Int)) (k := ?_)
                refine WL.op (d := 44) (.bool (decide ((c.p.fs.length : Int) ≤ 64))) (k := ?_)
                refine WL.op (d := 45) (.bool (decide ((c.p.fs.length : Int) ≤ 64))) (k := ?_)
                refine WL.op (d := 46) (.bool (decide ((c.p.fs.length : Int) ≤ 64))) (k := ?_)
                refine bsplit (decide ((c.p.fs.length : Int) ≤ 64)) (fun h32 => ?_) (fun h32 => ?_)
                · have ph32 := of_decide_eq_true h32
                  refine WL.rw (t := 46) (v := .bool true) (congrArg Value.bool h32) (k := ?_)
                  refine WL.op (d := 47) (.pointer (some ⟨b1, 14, none⟩)) (k := ?_)
                  refine WL.load (v := .slice c.A c.p.fs.length c.cap) (ld1 (T := 40) (i := 14) hb4) (k := ?_)
                  refine WL.op (d := 49) (.func (.func 41) #[] #[]) (k := ?_)
                  refine WL.callG (d := 50) (f := 46) (args := #[.slice c.A c.p.fs.length c.cap, .func (.func 41) #[] #[]]) (sContF_c (cp := c.cap) (hc.adds K) (by omega)) (k := fun e_ w33 h_ => ⟨.bool (!(okFs c.p.fs)), h_.1, ?_⟩)
                  have k34 := h_.2; clear h_
                  replace hb4 := k34.heap hb4 id
                  replace K := K.trans (k34.any _)
                  refine WL.op (d := 51) (.bool (!(!(okFs c.p.fs)))) (k := ?_)
                  refine WL.op (d := 52) (.bool (!(!(okFs c.p.fs)))) (k := ?_)
                  refine WL.op (d := 2) (.bool (!(!(okFs c.p.fs)))) (k := ?_)
                  refine WL.nil ?_
                  refine WX.seqN ?_
                  refine WC.ret ?_
                  refine WX.ret (rs := [.tmp 2]) [.bool (!(!(okFs c.p.fs)))] (.bool (!(!(okFs c.p.fs)))) ⟨(by kernel_rfl), trivial⟩ (k := ?_)
                  exact ⟨ret_bool ((Bool.not_not _).trans (cok_end ph13 (by simp only [PCmd.rngs]; omega) (by omega))), K⟩
                · have ph32 := of_decide_eq_false h32
                  refine WL.rw (t := 46) (v := .bool false) (congrArg Value.bool h32) (k := ?_)
                  refine WL.skip (d := 47) (k := ?_)
                  refine WL.skip (d := 48) (k := ?_)
                  refine WL.skip (d := 49) (k := ?_)
                  refine WL.skip (d := 50) (k := ?_)
                  refine WL.skip (d := 51) (k := ?_)
                  refine WL.op (d := 52) (.bool false) (k := ?_)
                  refine WL.op (d := 2) (.bool false) (k := ?_)
                  refine WL.nil ?_
                  refine WX.seqN ?_
                  refine WC.ret ?_
                  refine WX.ret (rs := [.tmp 2]) [.bool false] (.bool false) ⟨(by kernel_rfl), trivial⟩ (k := ?_)
                  exact ⟨ret_bool (cok_rng (fun k => by simp only [PCmd.rngs] at k; omega)), K⟩
              · have ph31 := of_decide_eq_false h31
                refine WL.rw (t := 40) (v := .bool false) (congrArg Value.bool h31) (k := ?_)
                refine WL.skip (d := 41) (k := ?_)
                refine WL.skip (d := 42) (k := ?_)
                refine WL.skip (d := 43) (k := ?_)
                refine WL.skip (d := 44) (k := ?_)
                refine WL.op (d := 45) (.bool false) (k := ?_)
                refine WL.op (d := 46) (.bool false) (k := ?_)
                refine WL.skip (d := 47) (k := ?_)
                refine WL.skip (d := 48) (k := ?_)
                refine WL.skip (d := 49) (k := ?_)
                refine WL.skip (d := 50) (k := ?_)
                refine WL.skip (d := 51) (k := ?_)
                refine WL.op (d := 52) (.bool false) (k := ?_)
                refine WL.op (d := 2) (.bool false) (k := ?_)
                refine WL.nil ?_
                refine WX.seqN ?_
                refine WC.ret ?_
                refine WX.ret (rs := [.tmp 2]) [.bool false] (.bool false) ⟨(by kernel_rfl), trivial⟩ (k := ?_)
                exact ⟨ret_bool (cok_rng (fun k => by simp only [PCmd.rngs] at k; omega)), K⟩
            · have ph28 := of_decide_eq_false h28
              refine WL.rw (t := 35) (v := .bool false) (congrArg Value.bool h28) (k := ?_)
              refine WL.skip (d := 36) (k := ?_)
              refine WL.skip (d := 37) (k := ?_)
              refine WL.skip (d := 38) (k := ?_)
              refine WL.op (d := 39) (.bool false) (k := ?_)
              refine WL.op (d := 40) (.bool false) (k := ?_)
              refine WL.skip (d := 41) (k := ?_)
              refine WL.skip (d := 42) (k := ?_)
              refine WL.skip (d := 43) (k := ?_)
              refine WL.skip (d := 44) (k := ?_)
              refine WL.op (d := 45) (.bool false) (k := ?_)
              refine WL.op (d := 46) (.bool false) (k := ?_)
              refine WL.skip (d := 47) (k := ?_)
              refine WL.skip (d := 48) (k := ?_)
              refine WL.skip (d := 49) (k := ?_)
              refine WL.skip (d := 50) (k := ?_)
              refine WL.skip (d := 51) (k := ?_)
              refine WL.op (d := 52) (.bool false) (k := ?_)
              refine WL.op (d := 2) (.bool false) (k := ?_)
              refine WL.nil ?_
              refine WX.seqN ?_
              refine WC.ret ?_
              refine WX.ret (rs := [.tmp 2]) [.bool false] (.bool false) ⟨(by kernel_rfl), trivial⟩ (k := ?_)
              exact ⟨ret_bool (cok_rng (fun k => by simp only [PCmd.rngs] at k; omega)), K⟩
          · have ph25 := of_decide_eq_false h25
            refine WL.rw (t := 30) (v := .bool false) (congrArg Value.bool h25) (k := ?_)
            refine WL.skip (d := 31) (k := ?_)
            refine WL.skip (d := 32) (k := ?_)
            refine WL.skip (d := 33) (k := ?_)
            refine WL.op (d := 34) (.bool false) (k := ?_)
            refine WL.op (d := 35) (.bool false) (k := ?_)
            refine WL.skip (d := 36) (k := ?_)
            refine WL.skip (d := 37) (k := ?_)
            refine WL.skip (d := 38) (k := ?_)
            refine WL.op (d := 39) (.bool false) (k := ?_)
            refine WL.op (d := 40) (.bool false) (k := ?_)
            refine WL.skip (d := 41) (k := ?_)
            refine WL.skip (d := 42) (k := ?_)
            refine WL.skip (d := 43) (k := ?_)
            refine WL.skip (d := 44) (k := ?_)
            refine WL.op (d := 45) (.bool false) (k := ?_)
            refine WL.op (d := 46) (.bool false) (k := ?_)
            refine WL.skip (d := 47) (k := ?_)
            refine WL.skip (d := 48) (k := ?_)
            refine WL.skip (d := 49) (k := ?_)
            refine WL.skip (d := 50) (k := ?_)
            refine WL.skip (d := 51) (k := ?_)
            refine WL.op (d := 52) (.bool false) (k := ?_)
            refine WL.op (d := 2) (.bool false) (k := ?_)
            refine WL.nil ?_
            refine WX.seqN ?_
            refine WC.ret ?_
            refine WX.ret (rs := [.tmp 2]) [.bool false] (.bool false) ⟨(by kernel_rfl), trivial⟩ (k := ?_)
            exact ⟨ret_bool (cok_rng (fun k => by simp only [PCmd.rngs] at k; omega)), K⟩
end Go.Proofs.YtoeinhlmkpgjhaaDoor
namespace Go.Proofs.YtoeinhlmkpgjhaaDoor
open Go.RowKit
set_option linter.unusedVariables false
set_option linter.unusedSimpArgs false
abbrev kServe : List UInt8 := [115, 101, 114, 118, 101]
abbrev kAdmit : List UInt8 := [97, 100, 109, 105, 116]
abbrev kRemove : List UInt8 := [114, 101, 109, 111, 118, 101]
abbrev kResize : List UInt8 := [114, 101, 115, 105, 122, 101]
abbrev kMode : List UInt8 := [109, 111, 100, 101]
abbrev kCrash : List UInt8 := [99, 114, 97, 115, 104]
abbrev kTorn : List UInt8 := [116, 111, 114, 110]
abbrev kKept : List UInt8 := [107, 101, 112, 116]
abbrev kLost : List UInt8 := [108, 111, 115, 116]
abbrev kRelease : List UInt8 := [114, 101, 108, 101, 97, 115, 101]
abbrev kAsk : List UInt8 := [97, 115, 107]
abbrev kTick : List UInt8 := [116, 105, 99, 107]
abbrev kQuery : List UInt8 := [113, 117, 101, 114, 121]
abbrev kSnapshot : List UInt8 := [115, 110, 97, 112, 115, 104, 111, 116]
abbrev kFail : List UInt8 := [102, 97, 105, 108]
abbrev kStart : List UInt8 := [115, 116, 97, 114, 116]
theorem itoa_le {n : Int} (h0 : -9223372036854775808 ≤ n) (h1 : n ≤ 9223372036854775807) : (Lib.itoa n).length ≤ 21 := Lib.itoa_length_le n h0 h1
theorem joinL_len {c : UInt8} {M : Nat} : ∀ {xs : List (List UInt8)}, (∀ x ∈ xs, x.length ≤ M) → (joinL c xs).length ≤ xs.length * (M + 1) := by
  unfold joinL Lib.join
  intro xs
  induction xs with
  | nil => intro _; simp
  | cons x xs ih =>
    intro h
    have hx := h x (List.mem_cons_self ..)
    have hi := ih fun y hy => h y (List.mem_cons_of_mem _ hy)
    cases xs with
    | nil => simp [List.intercalate] at hi ⊢; omega
    | cons y ys =>
      rw [show [c].intercalate (x :: y :: ys) = x ++ [c] ++ [c].intercalate (y :: ys) from by simp [List.intercalate, List.intersperse]]
      simp only [List.length_append, List.length_cons, List.length_nil] at hi ⊢
      rw [Nat.succ_mul]
      omega
noncomputable def taskW (t : GTask) : List UInt8 := if t.ok then (Lib.itoa t.id ++ [58]) ++ joinL 47 [Lib.itoa t.c, Lib.itoa t.d, Lib.itoa t.t, Lib.itoa t.m] else []
theorem taskJ_le {t : GTask} (h : t.ok) : (joinL 47 [Lib.itoa t.c, Lib.itoa t.d, Lib.itoa t.t, Lib.itoa t.m]).length ≤ 88 := by
  obtain ⟨h1, h2, h3, h4, h5, h6, h7, h8⟩ := h
  refine joinL_len (M := 21) fun x hx => ?_
  simp only [List.mem_cons, List.not_mem_nil, or_false] at hx
  rcases hx with rfl | rfl | rfl | rfl <;> exact itoa_le (by omega) (by omega)
theorem taskW_le (t : GTask) : (taskW t).length ≤ 120 := by
  unfold taskW
  split
  · next h =>
    have := taskJ_le h
    have h2 := itoa_le (n := t.id) (by have := h.1; omega) (by have := h.2.1; omega)
    simp only [List.length_append, List.length_cons, List.length_nil]; omega
  · simp
noncomputable def opW (o : GOp) : List (List UInt8) :=
  if o.kind = 1 then [if o.sv then kServe else kAdmit, taskW o.task]
  else if o.kind = 2 then [kRemove, Lib.itoa o.id]
  else if o.kind = 3 then [kResize, Lib.itoa o.id, Lib.itoa o.c]
  else [kMode, Lib.itoa o.m]
noncomputable def fateW (f : GFate) : List (List UInt8) := if f.kind = 2 then [kTorn, Lib.itoa f.at_] else if f.kind = 1 then [kKept] else [kLost]
def fateP (f : GFate) : Prop := f.kind = 2 ∨ f.at_ = 0
instance (f : GFate) : Decidable (fateP f) := by unfold fateP; infer_instance
noncomputable def fatesW (fs : List GFate) : List (List UInt8) := [kCrash] ++ fs.flatMap fateW
noncomputable def fatesU (fs : List GFate) (i : Int) : List (List UInt8) := [kCrash] ++ (fs.take i.toNat).flatMap fateW
def fatesOk (fs : List GFate) : Bool := fs.all fun f => decide (fateP f)
noncomputable def cmdW (p : PCmd) : List (List UInt8) :=
  if p.kind = 1 then opW p.op
  else if p.kind = 2 then [kRelease, Lib.itoa p.id, Lib.itoa p.work]
  else if p.kind = 3 then [kAsk, Lib.itoa p.id, Lib.itoa p.work]
  else if p.kind = 4 then [kTick, Lib.itoa p.n]
  else if p.kind = 5 then [kQuery, Lib.itoa p.id]
  else if p.kind = 6 then [kSnapshot]
  else if p.kind = 7 then [kFail, Lib.itoa p.n]
  else if p.kind = 8 then fatesW p.fs
  else if p.kind = 9 then [kStart] else []
noncomputable def lineB (p : PCmd) : Bool := cokB p && (decide (p.kind ≠ 8) || fatesOk p.fs)
noncomputable def lineW (p : PCmd) : List UInt8 := if lineB p then joinL 32 (cmdW p) else []
theorem fatesU_zero (fs : List GFate) : fatesU fs 0 = [kCrash] := by simp [fatesU]
theorem fatesU_succ {fs : List GFate} {i : Int} {f : GFate} (h0 : 0 ≤ i) (h : fs[i.toNat]? = some f) : fatesU fs (i + 1) = fatesU fs i ++ fateW f := by
  unfold fatesU
  rw [show (i + 1).toNat = i.toNat + 1 by omega, List.take_add_one, h]
  simp
theorem fatesU_s2 {fs : List GFate} {i : Int} {f : GFate} (h0 : 0 ≤ i) (h : fs[i.toNat]? = some f) (k : f.kind = 2) : fatesU fs i ++ [kTorn, Lib.itoa f.at_] = fatesU fs (i + 1) := by
  rw [fatesU_succ h0 h, fateW, if_pos k]
theorem fatesU_s1 {fs : List GFate} {i : Int} {f : GFate} (h0 : 0 ≤ i) (h : fs[i.toNat]? = some f) (k2 : ¬ f.kind = 2) (k : f.kind = 1) : fatesU fs i ++ [kKept] = fatesU fs (i + 1) := by
  rw [fatesU_succ h0 h, fateW, if_neg k2, if_pos k]
theorem fatesU_s0 {fs : List GFate} {i : Int} {f : GFate} (h0 : 0 ≤ i) (h : fs[i.toNat]? = some f) (k2 : ¬ f.kind = 2) (k : ¬ f.kind = 1) : fatesU fs i ++ [kLost] = fatesU fs (i + 1) := by
  rw [fatesU_succ h0 h, fateW, if_neg k2, if_neg k]
theorem fatesU_end {fs : List GFate} {i : Int} (h : (fs.length : Int) ≤ i) : fatesU fs i = fatesW fs := by
  unfold fatesU fatesW
  rw [List.take_of_length_le (by omega)]
theorem fatesU_len (fs : List GFate) (i : Int) : (fatesU fs i).length ≤ 2 * fs.length + 1 := by
  have key : ∀ l : List GFate, (l.flatMap fateW).length ≤ 2 * l.length := fun l => by
    induction l with
    | nil => simp
    | cons f l ih =>
      have h1 : (fateW f).length ≤ 2 := by
        unfold fateW
        split
        · simp
        · split <;> simp
      simp only [List.flatMap_cons, List.length_append, List.length_cons]; omega
  have h := key (fs.take i.toNat)
  unfold fatesU
  simp only [List.length_append, List.length_cons, List.length_nil]
  have : (fs.take i.toNat).length ≤ fs.length := by simp; omega
  omega
def okU (fs : List GFate) (i : Int) : Prop := ∀ f ∈ fs.take i.toNat, fateP f
theorem okU_zero (fs : List GFate) : okU fs 0 := by unfold okU; simp
theorem okU_succ {fs : List GFate} {i : Int} {f : GFate} (h0 : 0 ≤ i) (h : fs[i.toNat]? = some f) (hu : okU fs i) (hf : fateP f) : okU fs (i + 1) := by
  unfold okU at hu ⊢
  rw [show (i + 1).toNat = i.toNat + 1 by omega, List.take_add_one, h]
  intro g hg
  rcases List.mem_append.1 hg with hg | hg
  · exact hu g hg
  · simp at hg; rw [hg]; exact hf
theorem okU_end {fs : List GFate} {i : Int} (h : (fs.length : Int) ≤ i) (hu : okU fs i) : fatesOk fs = true := by
  unfold okU at hu
  rw [List.take_of_length_le (by omega)] at hu
  unfold fatesOk
  exact List.all_eq_true.2 fun f hf => decide_eq_true (hu f hf)
theorem okU_bad {fs : List GFate} {i : Int} {f : GFate} (h : fs[i.toNat]? = some f) (hf : ¬ fateP f) : fatesOk fs = false := by
  cases e : fatesOk fs with
  | false => rfl
  | true => exact absurd (of_decide_eq_true (List.all_eq_true.1 e f (List.mem_of_getElem? h))) hf
end Go.Proofs.YtoeinhlmkpgjhaaDoor
namespace Go.Proofs.YtoeinhlmkpgjhaaDoor
open Go.RowKit
set_option linter.unusedVariables false
set_option linter.unusedSimpArgs false
set_option maxRecDepth 100000 in
set_option maxHeartbeats 4000000 in
theorem lnDigI_c {n : Int} {w : World} (hG : GB w) (h0 : -9223372036854775808 ≤ n) (h1 : n ≤ 9223372036854775807) : Calls Tryd.prog 20 #[.int .i64 n] w fun e w' => e = .returned (.string ⟨(Lib.itoa n).toArray⟩) ∧ Adds w w' := by
  have K : Keeps (fun _ => False) w w := Keeps.refl _ w
  refine Calls.start Tryd.func20 rfl (by kernel_rfl) ?_
  refine WC.seq ?_
  refine WC.region ?_
  refine WL.op (d := 2) (.string ⟨#[]⟩) (k := ?_)
  refine WL.nil ?_
  refine WX.seqN ?_
  refine WC.seq ?_
  refine WC.region ?_
  refine WL.op (d := 3) (.int .i64 n) (k := ?_)
  refine WL.callG (d := 4) (f := 38) (args := #[.int .i64 n, .int .i64 10]) (lItoa_c (n := n) (hG.keeps K (fun _ _ x => x)) (by omega) (by omega)) (k := fun e_ w2 h_ => ⟨.string ⟨(Lib.itoa n).toArray⟩, h_.1, ?_⟩)
  have k3 := h_.2; clear h_
  replace K := K.trans (k3.any _)
  have il1 := itoa_le (n := n) (by omega) (by omega)
  refine WL.op (d := 2) (.string ⟨(Lib.itoa n).toArray⟩) (k := ?_)
  refine WL.nil ?_
  refine WX.seqN ?_
  refine WC.ret ?_
  refine WX.ret (rs := [.tmp 2]) [.string ⟨(Lib.itoa n).toArray⟩] (.string ⟨(Lib.itoa n).toArray⟩) ⟨(by kernel_rfl), trivial⟩ (k := ?_)
  exact ⟨rfl, K⟩
set_option maxRecDepth 100000 in
set_option maxHeartbeats 4000000 in
theorem lnDigL_c {n : Int} {w : World} (hG : GB w) (h0 : -9223372036854775808 ≤ n) (h1 : n ≤ 9223372036854775807) : Calls Tryd.prog 22 #[.int .i64 n] w fun e w' => e = .returned (.string ⟨(Lib.itoa n).toArray⟩) ∧ Adds w w' := by
  have K : Keeps (fun _ => False) w w := Keeps.refl _ w
  refine Calls.start Tryd.func22 rfl (by kernel_rfl) ?_
  refine WC.seq ?_
  refine WC.region ?_
  refine WL.op (d := 2) (.string ⟨#[]⟩) (k := ?_)
  refine WL.nil ?_
  refine WX.seqN ?_
  refine WC.seq ?_
  refine WC.region ?_
  refine WL.op (d := 3) (.int .i64 n) (k := ?_)
  refine WL.callG (d := 4) (f := 38) (args := #[.int .i64 n, .int .i64 10]) (lItoa_c (n := n) (hG.keeps K (fun _ _ x => x)) (by omega) (by omega)) (k := fun e_ w2 h_ => ⟨.string ⟨(Lib.itoa n).toArray⟩, h_.1, ?_⟩)
  have k3 := h_.2; clear h_
  replace K := K.trans (k3.any _)
  have il1 := itoa_le (n := n) (by omega) (by omega)
  refine WL.op (d := 2) (.string ⟨(Lib.itoa n).toArray⟩) (k := ?_)
  refine WL.nil ?_
  refine WX.seqN ?_
  refine WC.ret ?_
  refine WX.ret (rs := [.tmp 2]) [.string ⟨(Lib.itoa n).toArray⟩] (.string ⟨(Lib.itoa n).toArray⟩) ⟨(by kernel_rfl), trivial⟩ (k := ?_)
  exact ⟨rfl, K⟩
set_option maxRecDepth 100000 in
set_option maxHeartbeats 4000000 in
theorem lnTask_c (t : GTask) {w : World} (hG : GB w) : Calls Tryd.prog 8 #[t.val] w fun e w' => e = .returned (.string ⟨(taskW t).toArray⟩) ∧ Adds w w' := by
  have K : Keeps (fun _ => False) w w := Keeps.refl _ w
  refine Calls.start Tryd.func8 rfl (by kernel_rfl) ?_
  refine WC.seq ?_
  refine WC.region ?_
  refine WL.new (d := 1) (T := 31) (Value.cells (GTask.val t)) (k := fun b1 w2 g3 hb4 k5 => ?_)
  have z6 := Nat.le_trans K.size g3
  replace K := K.trans (k5.any _)
  refine WL.op (d := 2) (.string ⟨#[]⟩) (k := ?_)
  refine WL.nil ?_
  refine WX.seqN ?_
  refine WC.seq ?_
  refine WC.seq ?_
  refine WC.region ?_
  refine WL.load (v := GTask.val t) (ldN (T := 31) (i := 0) (m := 5) (l := (Value.cells (GTask.val t)).toList) hb4) (k := ?_)
  refine WL.callG (d := 4) (f := 19) (args := #[GTask.val t]) (pCheck_c t w2) (k := fun e_ w7 h_ => ⟨.bool (decide (GTask.ok t)), h_.1, ?_⟩)
  have k8 := h_.2; clear h_
  replace hb4 := k8.heap hb4 id
  replace K := K.trans (k8.any _)
  refine WL.op (d := 5) (.bool (!(decide (GTask.ok t)))) (k := ?_)
  refine WL.nil ?_
  refine WX.seqN ?_
  refine WC.cond (b := !(decide (GTask.ok t))) (ht := fun h9 => ?_) (hf := fun h9 => ?_)
  · have h10 : (decide (GTask.ok t)) = false := Bool.not_inj (y := false) h9
    have ph10 := of_decide_eq_false h10
    refine WC.seq ?_
    refine WC.region ?_
    refine WL.op (d := 2) (.string ⟨#[]⟩) (k := ?_)
    refine WL.nil ?_
    refine WX.seqN ?_
    refine WC.ret ?_
    refine WX.seqR ?_
    refine WX.ret (rs := [.tmp 2]) [.string ⟨#[]⟩] (.string ⟨#[]⟩) ⟨(by kernel_rfl), trivial⟩ (k := ?_)
    exact ⟨by rw [taskW, if_neg ph10], K⟩
  · have h11 : (decide (GTask.ok t)) = true := Bool.not_inj (y := true) h9
    have ph11 := of_decide_eq_true h11
    refine WC.skip ?_
    refine WX.seqN ?_
    refine WC.seq ?_
    have un12 := ph11
    unfold GTask.ok at un12
    refine WC.mixed (fun _ => False) 19 (k := fun w13 k14 => ?_)
    replace hb4 := k14.heap hb4 id
    replace K := K.trans (k14.any _)
    have KC := Keeps.refl (fun _ => False) w13
    have bh15 := hb4
    have Kb := K
    refine WA.quiet 0 (d := 6) (.pointer (some ⟨b1, 0, none⟩)) KC (hi := rfl) (k := ?_)
    refine WA.quietR 1 (d := 7) (.int .i64 t.id) KC (exec_load (fun w_ k_ => ld1 (T := 3) (i := 0) (k_.heap bh15 id))) (hi := rfl) (k := ?_)
    refine WA.quiet 4 (d := 10) (.pointer (some ⟨b1, 1, none⟩)) KC (hi := rfl) (k := ?_)
    refine WA.quietR 5 (d := 11) (.int .i64 t.c) KC (exec_load (fun w_ k_ => ld1 (T := 2) (i := 1) (k_.heap bh15 id))) (hi := rfl) (k := ?_)
    refine WA.quiet 7 (d := 13) (.pointer (some ⟨b1, 2, none⟩)) KC (hi := rfl) (k := ?_)
    refine WA.quietR 8 (d := 14) (.int .i64 t.d) KC (exec_load (fun w_ k_ => ld1 (T := 2) (i := 2) (k_.heap bh15 id))) (hi := rfl) (k := ?_)
    refine WA.quiet 10 (d := 16) (.pointer (some ⟨b1, 3, none⟩)) KC (hi := rfl) (k := ?_)
    refine WA.quietR 11 (d := 17) (.int .i64 t.t) KC (exec_load (fun w_ k_ => ld1 (T := 2) (i := 3) (k_.heap bh15 id))) (hi := rfl) (k := ?_)
    refine WA.quiet 13 (d := 19) (.pointer (some ⟨b1, 4, none⟩)) KC (hi := rfl) (k := ?_)
    refine WA.quietR 14 (d := 20) (.int .i64 t.m) KC (exec_load (fun w_ k_ => ld1 (T := 3) (i := 4) (k_.heap bh15 id))) (hi := rfl) (k := ?_)
    refine WA.step 2 (hi := rfl) (k := ?_)
    refine WL.callG (d := 8) (f := 20) (args := #[.int .i64 t.id]) (lnDigI_c (n := t.id) (hG.keeps K (fun _ _ x => x)) (by omega) (by omega)) (k := fun e_ w17 h_ => ⟨.string ⟨(Lib.itoa t.id).toArray⟩, h_.1, ?_⟩)
    have k18 := h_.2; clear h_
    replace hb4 := k18.heap hb4 id
    replace K := K.trans (k18.any _)
    replace KC := KC.trans (k18.any _)
    have il16 := itoa_le (n := t.id) (by omega) (by omega)
    refine WL.nil ?_
    refine WX.nxt KC ?_
    refine WA.quietR 3 (d := 9) (.string ⟨((Lib.itoa t.id) ++ [58]).toArray⟩) KC (exec_bin (fun _ => cat_run (by (try simp only [List.length_append, List.length_cons, List.length_nil]); omega))) (hi := rfl) (k := ?_)
    refine WA.step 6 (hi := rfl) (k := ?_)
    refine WL.callG (d := 12) (f := 22) (args := #[.int .i64 t.c]) (lnDigL_c (n := t.c) (hG.keeps K (fun _ _ x => x)) (by omega) (by omega)) (k := fun e_ w20 h_ => ⟨.string ⟨(Lib.itoa t.c).toArray⟩, h_.1, ?_⟩)
    have k21 := h_.2; clear h_
    replace hb4 := k21.heap hb4 id
    replace K := K.trans (k21.any _)
    replace KC := KC.trans (k21.any _)
    have il19 := itoa_le (n := t.c) (by omega) (by omega)
    refine WL.nil ?_
    refine WX.nxt KC ?_
    refine WA.step 9 (hi := rfl) (k := ?_)
    refine WL.callG (d := 15) (f := 22) (args := #[.int .i64 t.d]) (lnDigL_c (n := t.d) (hG.keeps K (fun _ _ x => x)) (by omega) (by omega)) (k := fun e_ w23 h_ => ⟨.string ⟨(Lib.itoa t.d).toArray⟩, h_.1, ?_⟩)
    have k24 := h_.2; clear h_
    replace hb4 := k24.heap hb4 id
    replace K := K.trans (k24.any _)
    replace KC := KC.trans (k24.any _)
    have il22 := itoa_le (n := t.d) (by omega) (by omega)
    refine WL.nil ?_
    refine WX.nxt KC ?_
    refine WA.step 12 (hi := rfl) (k := ?_)
    refine WL.callG (d := 18) (f := 22) (args := #[.int .i64 t.t]) (lnDigL_c (n := t.t) (hG.keeps K (fun _ _ x => x)) (by omega) (by omega)) (k := fun e_ w26 h_ => ⟨.string ⟨(Lib.itoa t.t).toArray⟩, h_.1, ?_⟩)
    have k27 := h_.2; clear h_
    replace hb4 := k27.heap hb4 id
    replace K := K.trans (k27.any _)
    replace KC := KC.trans (k27.any _)
    have il25 := itoa_le (n := t.t) (by omega) (by omega)
    refine WL.nil ?_
    refine WX.nxt KC ?_
    refine WA.step 15 (hi := rfl) (k := ?_)
    refine WL.callG (d := 21) (f := 20) (args := #[.int .i64 t.m]) (lnDigI_c (n := t.m) (hG.keeps K (fun _ _ x => x)) (by omega) (by omega)) (k := fun e_ w29 h_ => ⟨.string ⟨(Lib.itoa t.m).toArray⟩, h_.1, ?_⟩)
    have k30 := h_.2; clear h_
    replace hb4 := k30.heap hb4 id
    replace K := K.trans (k30.any _)
    replace KC := KC.trans (k30.any _)
    have il28 := itoa_le (n := t.m) (by omega) (by omega)
    refine WL.nil ?_
    refine WX.nxt KC ?_
    refine WA.step 16 (hi := rfl) (k := ?_)
    refine WL.newF (d := 22) (T := 9) #[.string ⟨(Lib.itoa t.c).toArray⟩, .string ⟨(Lib.itoa t.d).toArray⟩, .string ⟨(Lib.itoa t.t).toArray⟩, .string ⟨(Lib.itoa t.m).toArray⟩] (fun b => .slice (some ⟨b, 0, none⟩) 4 4) (k := fun b31 w32 g33 hb34 k35 => ?_)
    have z36 := Nat.le_trans K.size g33
    have zc37 := Nat.le_trans KC.size g33
    have n38 : b1 ≠ b31 := Nat.ne_of_lt (Nat.lt_of_lt_of_le (lt_of_heap hb4) g33)
    replace hb4 := k35.heap hb4 id
    replace K := K.trans (k35.any _)
    replace KC := KC.trans (k35.any _)
    refine WL.nil ?_
    refine WX.nxt KC ?_
    refine WA.step 17 (hi := rfl) (k := ?_)
    refine WL.callG (d := 23) (f := 21) (args := #[.slice (some ⟨b31, 0, none⟩) 4 4, .string ⟨#[47]⟩]) (lJoin_c (xs := [Lib.itoa t.c, Lib.itoa t.d, Lib.itoa t.t, Lib.itoa t.m]) (c := 47) (cap := 4) (SlAt.of_lit (ys := [Lib.itoa t.c, Lib.itoa t.d, Lib.itoa t.t, Lib.itoa t.m]) ekStr hb34 (by kernel_rfl)) (by show 4 ≤ 4; omega) (by show 4 ≤ _; omega) (Nat.le_trans (taskJ_le ph11) (by omega))) (k := fun e_ w40 h_ => ⟨.string ⟨(joinL 47 [Lib.itoa t.c, Lib.itoa t.d, Lib.itoa t.t, Lib.itoa t.m]).toArray⟩, h_.1, ?_⟩)
    have k41 := h_.2; clear h_
    replace hb4 := k41.heap hb4 id
    replace hb34 := k41.heap hb34 id
    replace K := K.trans (k41.any _)
    replace KC := KC.trans (k41.any _)
    have jl39 := taskJ_le ph11
    refine WL.nil ?_
    refine WX.nxt KC ?_
    refine WA.quietR 18 (d := 24) (.string ⟨((Lib.itoa t.id) ++ [58] ++ (joinL 47 [Lib.itoa t.c, Lib.itoa t.d, Lib.itoa t.t, Lib.itoa t.m])).toArray⟩) KC (exec_bin (fun _ => cat_run (by (try simp only [List.length_append, List.length_cons, List.length_nil]); omega))) (hi := rfl) (k := ?_)
    refine WA.step 19 (hi := rfl) (k := ?_)
    refine WL.op (d := 2) (.string ⟨((Lib.itoa t.id) ++ [58] ++ (joinL 47 [Lib.itoa t.c, Lib.itoa t.d, Lib.itoa t.t, Lib.itoa t.m])).toArray⟩) (k := ?_)
    refine WL.nil ?_
    refine WX.nxtL ?_
    refine WA.done (k := ?_)
    clear KC
    refine WX.seqN ?_
    refine WC.ret ?_
    refine WX.ret (rs := [.tmp 2]) [.string ⟨((Lib.itoa t.id) ++ [58] ++ (joinL 47 [Lib.itoa t.c, Lib.itoa t.d, Lib.itoa t.t, Lib.itoa t.m])).toArray⟩] (.string ⟨((Lib.itoa t.id) ++ [58] ++ (joinL 47 [Lib.itoa t.c, Lib.itoa t.d, Lib.itoa t.t, Lib.itoa t.m])).toArray⟩) ⟨(by kernel_rfl), trivial⟩ (k := ?_)
    exact ⟨by rw [taskW, if_pos ph11], K⟩
theorem OwAt.of_row {α : Type} {cl : α → List Value} {m : Nat} {E : TypeId} {b : Nat} {ys : List α} {cs : Array Value} {w : World} (hk : EK cl m E) (hb : w.heap[b]? = some (.cells cs E (0, 0))) (hcs : cs.toList = ys.flatMap cl) (hn : ys.length ≤ 1000000) : OwAt cl m E (some ⟨b, 0, none⟩) ys.length ys w := by
  have hl : ∀ l : List α, (l.flatMap cl).length = l.length * m := fun l => by
    induction l with
    | nil => simp
    | cons x l ih => simp [List.flatMap_cons, hk.len, ih, Nat.add_mul, Nat.add_comm]
  refine ⟨hl ys, .inr ⟨b, ys.length, cs, rfl, Nat.zero_le _, hb, Nat.le_refl _, by unfold maxLen; omega, ?_, ?_⟩⟩
  · rw [← hl ys, ← hcs]; simp
  · rw [hcs, ← hl ys, List.take_length]
theorem opok_rng {o : GOp} (h : o.ok) : -9223372036854775808 ≤ o.id ∧ o.id ≤ 9223372036854775807 ∧ -9223372036854775808 ≤ o.c ∧ o.c ≤ 9223372036854775807 ∧ -9223372036854775808 ≤ o.m ∧ o.m ≤ 9223372036854775807 := by
  obtain ⟨h1, h2⟩ := h
  unfold GOp.right at h2
  have e1 := congrArg GOp.id h1
  have e2 := congrArg GOp.c h1
  have e3 := congrArg GOp.m h1
  unfold GOp.bare at e1 e2 e3
  by_cases k1 : o.kind = 1
  · simp only [k1, if_true] at e1 e2 e3; omega
  · by_cases k2 : o.kind = 2
    · simp only [k1, k2, if_true, if_false] at e1 e2 e3 h2; simp at e1 e2 e3 h2; omega
    · by_cases k3 : o.kind = 3
      · simp only [k1, k2, k3, if_true, if_false] at e1 e2 e3 h2; simp at e1 e2 e3 h2; omega
      · by_cases k4 : o.kind = 4
        · simp only [k1, k2, k3, k4, if_true, if_false] at e1 e2 e3 h2; simp at e1 e2 e3 h2; omega
        · simp only [k1, k2, k3, k4, if_true, if_false] at e1 e2 e3; omega
set_option maxRecDepth 100000 in
set_option maxHeartbeats 4000000 in
theorem lnOp_c {o : GOp} (ho : o.ok) {w : World} (hG : GB w) : Calls Tryd.prog 26 #[o.val] w fun e w' => ∃ A c, e = .returned (.slice A (opW o).length c) ∧ OwAt strC 1 9 A c (opW o) w' ∧ Adds w w' ∧ (∀ i, blk A = some i → w.heap.size ≤ i) := by
  have K : Keeps (fun _ => False) w w := Keeps.refl _ w
  refine Calls.start Tryd.func26 rfl (by kernel_rfl) ?_
  refine WC.seq ?_
  refine WC.region ?_
  refine WL.new (d := 1) (T := 39) (Value.cells (GOp.val o)) (k := fun b1 w2 g3 hb4 k5 => ?_)
  have z6 := Nat.le_trans K.size g3
  replace K := K.trans (k5.any _)
  refine WL.op (d := 2) (.slice none 0 0) (k := ?_)
  refine WL.nil ?_
  refine WX.seqN ?_
  refine WC.seq ?_
  refine WC.seq ?_
  have or_ := opok_rng ho
  obtain ⟨or1_, or2_, or3_, or4_, or5_, or6_⟩ := or_
  refine WC.region ?_
  refine WL.op (d := 3) (.pointer (some ⟨b1, 0, none⟩)) (k := ?_)
  refine WL.load (v := .int .i64 o.kind) (ld1 (T := 3) (i := 0) hb4) (k := ?_)
  refine WL.nil ?_
  refine WX.seqN ?_
  refine WC.block ?_
  refine WC.seq ?_
  refine WC.region ?_
  refine WL.op (d := 6) (.bool (o.kind == 1)) (k := ?_)
  refine WL.op (d := 5) (.bool (o.kind == 1)) (k := ?_)
  refine WL.nil ?_
  refine WX.seqN ?_
  refine WC.cond (b := o.kind == 1) (ht := fun h7 => ?_) (hf := fun h7 => ?_)
  · have ph7 := eq_of_beq h7
    refine WC.seq ?_
    refine WC.seq ?_
    refine WC.region ?_
    refine WL.op (d := 7) (.pointer (some ⟨b1, 6, none⟩)) (k := ?_)
    refine WL.load (v := .bool o.sv) (ld1 (T := 4) (i := 6) hb4) (k := ?_)
    refine WL.nil ?_
    refine WX.seqN ?_
    refine WC.cond (b := o.sv) (ht := fun h8 => ?_) (hf := fun h8 => ?_)
    · refine WC.seq ?_
      refine WC.region ?_
      refine WL.op (d := 9) (.pointer (some ⟨b1, 1, none⟩)) (k := ?_)
      refine WL.load (v := GTask.val o.task) (ldN (T := 31) (i := 1) (m := 5) (l := (Value.cells (GTask.val o.task)).toList) hb4) (k := ?_)
      refine WL.callG (d := 11) (f := 8) (args := #[GTask.val o.task]) (lnTask_c o.task (hG.keeps K (fun _ _ x => x))) (k := fun e_ w9 h_ => ⟨.string ⟨(taskW o.task).toArray⟩, h_.1, ?_⟩)
      have k10 := h_.2; clear h_
      replace hb4 := k10.heap hb4 id
      replace K := K.trans (k10.any _)
      refine WL.newF (d := 12) (T := 9) #[.string ⟨#[115, 101, 114, 118, 101]⟩, .string ⟨(taskW o.task).toArray⟩] (fun b => .slice (some ⟨b, 0, none⟩) 2 2) (k := fun b11 w12 g13 hb14 k15 => ?_)
      have z16 := Nat.le_trans K.size g13
      have n17 : b1 ≠ b11 := Nat.ne_of_lt (Nat.lt_of_lt_of_le (lt_of_heap hb4) g13)
      replace hb4 := k15.heap hb4 id
      replace K := K.trans (k15.any _)
      refine WL.op (d := 2) (.slice (some ⟨b11, 0, none⟩) 2 2) (k := ?_)
      refine WL.nil ?_
      refine WX.seqN ?_
      refine WC.ret ?_
      refine WX.seqR ?_
      refine WX.blockR ?_
      refine WX.seqR ?_
      refine WX.ret (rs := [.tmp 2]) [.slice (some ⟨b11, 0, none⟩) 2 2] (.slice (some ⟨b11, 0, none⟩) 2 2) ⟨(by kernel_rfl), trivial⟩ (k := ?_)
      have eo_ : [[115, 101, 114, 118, 101], taskW o.task] = opW o := by rw [opW, if_pos ph7, if_pos h8]
      have sl_ := OwAt.of_row (ys := [[115, 101, 114, 118, 101], taskW o.task]) ekStr hb14 (by kernel_rfl) (by simp)
      rw [← eo_]
      exact ⟨_, _, rfl, sl_, K, fun i hi => by cases hi; exact z16⟩
    · refine WC.skip ?_
      refine WX.seqN ?_
      refine WC.seq ?_
      refine WC.region ?_
      refine WL.op (d := 13) (.pointer (some ⟨b1, 1, none⟩)) (k := ?_)
      refine WL.load (v := GTask.val o.task) (ldN (T := 31) (i := 1) (m := 5) (l := (Value.cells (GTask.val o.task)).toList) hb4) (k := ?_)
      refine WL.callG (d := 15) (f := 8) (args := #[GTask.val o.task]) (lnTask_c o.task (hG.keeps K (fun _ _ x => x))) (k := fun e_ w18 h_ => ⟨.string ⟨(taskW o.task).toArray⟩, h_.1, ?_⟩)
      have k19 := h_.2; clear h_
      replace hb4 := k19.heap hb4 id
      replace K := K.trans (k19.any _)
      refine WL.newF (d := 16) (T := 9) #[.string ⟨#[97, 100, 109, 105, 116]⟩, .string ⟨(taskW o.task).toArray⟩] (fun b => .slice (some ⟨b, 0, none⟩) 2 2) (k := fun b20 w21 g22 hb23 k24 => ?_)
      have z25 := Nat.le_trans K.size g22
      have n26 : b1 ≠ b20 := Nat.ne_of_lt (Nat.lt_of_lt_of_le (lt_of_heap hb4) g22)
      replace hb4 := k24.heap hb4 id
      replace K := K.trans (k24.any _)
      refine WL.op (d := 2) (.slice (some ⟨b20, 0, none⟩) 2 2) (k := ?_)
      refine WL.nil ?_
      refine WX.seqN ?_
      refine WC.ret ?_
      refine WX.blockR ?_
      refine WX.seqR ?_
      refine WX.ret (rs := [.tmp 2]) [.slice (some ⟨b20, 0, none⟩) 2 2] (.slice (some ⟨b20, 0, none⟩) 2 2) ⟨(by kernel_rfl), trivial⟩ (k := ?_)
      have eo_ : [[97, 100, 109, 105, 116], taskW o.task] = opW o := by rw [opW, if_pos ph7, if_neg (by rw [h8]; decide)]
      have sl_ := OwAt.of_row (ys := [[97, 100, 109, 105, 116], taskW o.task]) ekStr hb23 (by kernel_rfl) (by simp)
      rw [← eo_]
      exact ⟨_, _, rfl, sl_, K, fun i hi => by cases hi; exact z25⟩
  · have ph7 := ne_of_beq_false h7
    refine WC.seq ?_
    refine WC.region ?_
    refine WL.op (d := 18) (.bool (o.kind == 2)) (k := ?_)
    refine WL.op (d := 17) (.bool (o.kind == 2)) (k := ?_)
    refine WL.nil ?_
    refine WX.seqN ?_
    refine WC.cond (b := o.kind == 2) (ht := fun h27 => ?_) (hf := fun h27 => ?_)
    · have ph27 := eq_of_beq h27
      refine WC.seq ?_
      refine WC.region ?_
      refine WL.op (d := 19) (.pointer (some ⟨b1, 7, none⟩)) (k := ?_)
      refine WL.load (v := .int .i64 o.id) (ld1 (T := 3) (i := 7) hb4) (k := ?_)
      refine WL.callG (d := 21) (f := 20) (args := #[.int .i64 o.id]) (lnDigI_c (n := o.id) (hG.keeps K (fun _ _ x => x)) (by omega) (by omega)) (k := fun e_ w29 h_ => ⟨.string ⟨(Lib.itoa o.id).toArray⟩, h_.1, ?_⟩)
      have k30 := h_.2; clear h_
      replace hb4 := k30.heap hb4 id
      replace K := K.trans (k30.any _)
      have il28 := itoa_le (n := o.id) (by omega) (by omega)
      refine WL.newF (d := 22) (T := 9) #[.string ⟨#[114, 101, 109, 111, 118, 101]⟩, .string ⟨(Lib.itoa o.id).toArray⟩] (fun b => .slice (some ⟨b, 0, none⟩) 2 2) (k := fun b31 w32 g33 hb34 k35 => ?_)
      have z36 := Nat.le_trans K.size g33
      have n37 : b1 ≠ b31 := Nat.ne_of_lt (Nat.lt_of_lt_of_le (lt_of_heap hb4) g33)
      replace hb4 := k35.heap hb4 id
      replace K := K.trans (k35.any _)
      refine WL.op (d := 2) (.slice (some ⟨b31, 0, none⟩) 2 2) (k := ?_)
      refine WL.nil ?_
      refine WX.seqN ?_
      refine WC.ret ?_
      refine WX.blockR ?_
      refine WX.seqR ?_
      refine WX.ret (rs := [.tmp 2]) [.slice (some ⟨b31, 0, none⟩) 2 2] (.slice (some ⟨b31, 0, none⟩) 2 2) ⟨(by kernel_rfl), trivial⟩ (k := ?_)
      have eo_ : [[114, 101, 109, 111, 118, 101], Lib.itoa o.id] = opW o := by rw [opW, if_neg ph7, if_pos ph27]
      have sl_ := OwAt.of_row (ys := [[114, 101, 109, 111, 118, 101], Lib.itoa o.id]) ekStr hb34 (by kernel_rfl) (by simp)
      rw [← eo_]
      exact ⟨_, _, rfl, sl_, K, fun i hi => by cases hi; exact z36⟩
    · have ph27 := ne_of_beq_false h27
      refine WC.seq ?_
      refine WC.region ?_
      refine WL.op (d := 24) (.bool (o.kind == 3)) (k := ?_)
      refine WL.op (d := 23) (.bool (o.kind == 3)) (k := ?_)
      refine WL.nil ?_
      refine WX.seqN ?_
      refine WC.cond (b := o.kind == 3) (ht := fun h38 => ?_) (hf := fun h38 => ?_)
      · have ph38 := eq_of_beq h38
        refine WC.seq ?_
        refine WC.mixed (fun _ => False) 7 (k := fun w39 k40 => ?_)
        replace hb4 := k40.heap hb4 id
        replace K := K.trans (k40.any _)
        have KC := Keeps.refl (fun _ => False) w39
        have bh41 := hb4
        have Kb := K
        refine WA.quiet 0 (d := 25) (.pointer (some ⟨b1, 7, none⟩)) KC (hi := rfl) (k := ?_)
        refine WA.quietR 1 (d := 26) (.int .i64 o.id) KC (exec_load (fun w_ k_ => ld1 (T := 3) (i := 7) (k_.heap bh41 id))) (hi := rfl) (k := ?_)
        refine WA.quiet 3 (d := 28) (.pointer (some ⟨b1, 8, none⟩)) KC (hi := rfl) (k := ?_)
        refine WA.quietR 4 (d := 29) (.int .i64 o.c) KC (exec_load (fun w_ k_ => ld1 (T := 2) (i := 8) (k_.heap bh41 id))) (hi := rfl) (k := ?_)
        refine WA.step 2 (hi := rfl) (k := ?_)
        refine WL.callG (d := 27) (f := 20) (args := #[.int .i64 o.id]) (lnDigI_c (n := o.id) (hG.keeps K (fun _ _ x => x)) (by omega) (by omega)) (k := fun e_ w43 h_ => ⟨.string ⟨(Lib.itoa o.id).toArray⟩, h_.1, ?_⟩)
        have k44 := h_.2; clear h_
        replace hb4 := k44.heap hb4 id
        replace K := K.trans (k44.any _)
        replace KC := KC.trans (k44.any _)
        have il42 := itoa_le (n := o.id) (by omega) (by omega)
        refine WL.nil ?_
        refine WX.nxt KC ?_
        refine WA.step 5 (hi := rfl) (k := ?_)
        refine WL.callG (d := 30) (f := 22) (args := #[.int .i64 o.c]) (lnDigL_c (n := o.c) (hG.keeps K (fun _ _ x => x)) (by omega) (by omega)) (k := fun e_ w46 h_ => ⟨.string ⟨(Lib.itoa o.c).toArray⟩, h_.1, ?_⟩)
        have k47 := h_.2; clear h_
        replace hb4 := k47.heap hb4 id
        replace K := K.trans (k47.any _)
        replace KC := KC.trans (k47.any _)
        have il45 := itoa_le (n := o.c) (by omega) (by omega)
        refine WL.nil ?_
        refine WX.nxt KC ?_
        refine WA.step 6 (hi := rfl) (k := ?_)
        refine WL.newF (d := 31) (T := 9) #[.string ⟨#[114, 101, 115, 105, 122, 101]⟩, .string ⟨(Lib.itoa o.id).toArray⟩, .string ⟨(Lib.itoa o.c).toArray⟩] (fun b => .slice (some ⟨b, 0, none⟩) 3 3) (k := fun b48 w49 g50 hb51 k52 => ?_)
        have z53 := Nat.le_trans K.size g50
        have zc54 := Nat.le_trans KC.size g50
        have n55 : b1 ≠ b48 := Nat.ne_of_lt (Nat.lt_of_lt_of_le (lt_of_heap hb4) g50)
        replace hb4 := k52.heap hb4 id
        replace K := K.trans (k52.any _)
        replace KC := KC.trans (k52.any _)
        refine WL.nil ?_
        refine WX.nxt KC ?_
        refine WA.step 7 (hi := rfl) (k := ?_)
        refine WL.op (d := 2) (.slice (some ⟨b48, 0, none⟩) 3 3) (k := ?_)
        refine WL.nil ?_
        refine WX.nxtL ?_
        refine WA.done (k := ?_)
        clear KC
        refine WX.seqN ?_
        refine WC.ret ?_
        refine WX.blockR ?_
        refine WX.seqR ?_
        refine WX.ret (rs := [.tmp 2]) [.slice (some ⟨b48, 0, none⟩) 3 3] (.slice (some ⟨b48, 0, none⟩) 3 3) ⟨(by kernel_rfl), trivial⟩ (k := ?_)
        have eo_ : [[114, 101, 115, 105, 122, 101], Lib.itoa o.id, Lib.itoa o.c] = opW o := by rw [opW, if_neg ph7, if_neg ph27, if_pos ph38]
        have sl_ := OwAt.of_row (ys := [[114, 101, 115, 105, 122, 101], Lib.itoa o.id, Lib.itoa o.c]) ekStr hb51 (by kernel_rfl) (by simp)
        rw [← eo_]
        exact ⟨_, _, rfl, sl_, K, fun i hi => by cases hi; exact z53⟩
      · have ph38 := ne_of_beq_false h38
        refine WC.skip ?_
        refine WX.blockN ?_
        refine WX.seqN ?_
        refine WC.seq ?_
        refine WC.region ?_
        refine WL.op (d := 32) (.pointer (some ⟨b1, 9, none⟩)) (k := ?_)
        refine WL.load (v := .int .i64 o.m) (ld1 (T := 3) (i := 9) hb4) (k := ?_)
        refine WL.callG (d := 34) (f := 20) (args := #[.int .i64 o.m]) (lnDigI_c (n := o.m) (hG.keeps K (fun _ _ x => x)) (by omega) (by omega)) (k := fun e_ w57 h_ => ⟨.string ⟨(Lib.itoa o.m).toArray⟩, h_.1, ?_⟩)
        have k58 := h_.2; clear h_
        replace hb4 := k58.heap hb4 id
        replace K := K.trans (k58.any _)
        have il56 := itoa_le (n := o.m) (by omega) (by omega)
        refine WL.newF (d := 35) (T := 9) #[.string ⟨#[109, 111, 100, 101]⟩, .string ⟨(Lib.itoa o.m).toArray⟩] (fun b => .slice (some ⟨b, 0, none⟩) 2 2) (k := fun b59 w60 g61 hb62 k63 => ?_)
        have z64 := Nat.le_trans K.size g61
        have n65 : b1 ≠ b59 := Nat.ne_of_lt (Nat.lt_of_lt_of_le (lt_of_heap hb4) g61)
        replace hb4 := k63.heap hb4 id
        replace K := K.trans (k63.any _)
        refine WL.op (d := 2) (.slice (some ⟨b59, 0, none⟩) 2 2) (k := ?_)
        refine WL.nil ?_
        refine WX.seqN ?_
        refine WC.ret ?_
        refine WX.ret (rs := [.tmp 2]) [.slice (some ⟨b59, 0, none⟩) 2 2] (.slice (some ⟨b59, 0, none⟩) 2 2) ⟨(by kernel_rfl), trivial⟩ (k := ?_)
        have eo_ : [[109, 111, 100, 101], Lib.itoa o.m] = opW o := by rw [opW, if_neg ph7, if_neg ph27, if_neg ph38]
        have sl_ := OwAt.of_row (ys := [[109, 111, 100, 101], Lib.itoa o.m]) ekStr hb62 (by kernel_rfl) (by simp)
        rw [← eo_]
        exact ⟨_, _, rfl, sl_, K, fun i hi => by cases hi; exact z64⟩
noncomputable def fatesR (fs : List GFate) : List (List UInt8) := if fatesOk fs = true then fatesW fs else []
set_option maxRecDepth 100000 in
set_option maxHeartbeats 4000000 in
theorem lnFates_c {A : Option Addr} {cp : Nat} {fs : List GFate} {w : World} (hG : GB w) (hA : SlAt fateC 2 89 A fs w) (hn : fs.length ≤ 1000000) (hf : ∀ f ∈ fs, f.ok) : Calls Tryd.prog 27 #[.slice A fs.length cp] w fun e w' => ∃ A c, e = .returned (.tuple #[.slice A (fatesR fs).length c, .bool (fatesOk fs)]) ∧ OwAt strC 1 9 A c (fatesR fs) w' ∧ Adds w w' ∧ (∀ i, blk A = some i → w.heap.size ≤ i) := by
  have K : Keeps (fun _ => False) w w := Keeps.refl _ w
  refine Calls.start Tryd.func27 rfl (by kernel_rfl) ?_
  refine WC.seq ?_
  refine WC.region ?_
  refine WL.op (d := 2) (.slice none 0 0) (k := ?_)
  refine WL.op (d := 3) (.bool false) (k := ?_)
  refine WL.nil ?_
  refine WX.seqN ?_
  refine WC.seq ?_
  refine WC.region ?_
  refine WL.newF (d := 7) (T := 9) #[.string ⟨#[99, 114, 97, 115, 104]⟩] (fun b => .slice (some ⟨b, 0, none⟩) 1 1) (k := fun b1 w2 g3 hb4 k5 => ?_)
  have z6 := Nat.le_trans K.size g3
  replace K := K.trans (k5.any _)
  refine WL.op (d := 4) (.slice (some ⟨b1, 0, none⟩) 1 1) (k := ?_)
  refine WL.nil ?_
  refine WX.seqN ?_
  refine WC.seq ?_
  refine WC.seq ?_
  refine WC.region ?_
  refine WL.op (d := 8) (.slice A fs.length cp) (k := ?_)
  refine WL.op (d := 9) (.int .i64 (fs.length : Int)) (k := ?_)
  refine WL.op (d := 10) (.int .i64 0) (k := ?_)
  refine WL.nil ?_
  refine WX.seqN ?_
  refine WC.block ?_
  have ho7 := OwAt.of_row (ys := [kCrash]) ekStr hb4 (by kernel_rfl) (by simp)
  rw [← fatesU_zero fs] at ho7
  have ol8 : ∀ i, blk (some ⟨b1, 0, none⟩) = some i → w.heap.size ≤ i := fun i e => by cases e; exact z6
  refine WC.rw (t := 4) (v := .slice (some ⟨b1, 0, none⟩) ((fatesU fs 0).length) ((fatesU fs 0).length)) (congrArg (fun n => Value.slice (some ⟨b1, 0, none⟩) n n) (show 1 = (fatesU fs 0).length by rw [fatesU_zero]; rfl)) (k := ?_)
  refine WC.loop (ι := Int × (Option Addr) × Nat) (fun (⟨i, Ao, co⟩ : Int × (Option Addr) × Nat) => [(0, .slice A fs.length cp), (7, .slice (some ⟨b1, 0, none⟩) 1 1), (8, .slice A fs.length cp), (9, .int .i64 (fs.length : Int)), (10, .int .i64 i), (4, .slice Ao ((fatesU fs i).length) co)]) (fun (⟨i, Ao, co⟩ : Int × (Option Addr) × Nat) (w_ : World) => (Keeps (fun _ => False) w w_) ∧ (OwAt strC 1 9 Ao co (fatesU fs i) w_) ∧ (∀ i, blk Ao = some i → w.heap.size ≤ i) ∧ (0 ≤ i) ∧ (i ≤ fs.length) ∧ (okU fs i)) (fun (⟨i, Ao, co⟩ : Int × (Option Addr) × Nat) => (fs.length - i).toNat) (0, (some ⟨b1, 0, none⟩), (fatesU fs 0).length) ⟨(by kernel_rfl), (by kernel_rfl), (by kernel_rfl), (by kernel_rfl), (by kernel_rfl), (by kernel_rfl), trivial⟩ ⟨K, ho7, ol8, Int.le_refl 0, (by omega), okU_zero _⟩ ?_
  rintro ⟨i, Ao, co⟩ w9 ⟨K, hb10, ol11, i0, i1, iu⟩
  have lm_ := fatesU_len fs i
  refine WC.seq ?_
  refine WC.region ?_
  refine WL.op (d := 11) (.bool (decide (i < (fs.length : Int)))) (k := ?_)
  refine WL.nil ?_
  refine WX.seqN ?_
  refine WC.seq ?_
  refine WC.cond (b := decide (i < (fs.length : Int))) (ht := fun h12 => ?_) (hf := fun h12 => ?_)
  · have ph12 := of_decide_eq_true h12
    refine WC.skip ?_
    refine WX.seqN ?_
    refine WC.seq ?_
    refine WC.block ?_
    refine WC.seq ?_
    refine WC.region ?_
    obtain ⟨b13, o14, r15, hr16, hA17, he18⟩ := SlAt.at hA (i := i) (by omega) (by omega)
    refine WL.rw (t := 8) (v := .slice (some ⟨b13, o14, none⟩) fs.length cp) (congrArg (fun a => Value.slice a fs.length cp) hA17) (k := ?_)
    have fk19 := hf _ (List.mem_of_getElem? hr16)
    unfold GFate.ok at fk19
    refine WL.idx (T := 40) (E := 89) (m := 2) (b := b13) (o := o14) (len := fs.length) (cap := cp) (i := i) (kk := .i64) (d := 12) (by omega) (by omega) (k := ?_)
    refine WL.rw (t := 8) (v := .slice A fs.length cp) (congrArg (fun a => Value.slice a fs.length cp) (Eq.symm hA17)) (k := ?_)
    refine WL.load (v := GFate.val r15) ((he18.adds K).ldW (T := 89)) (k := ?_)
    refine WL.new (d := 6) (T := 89) #[.int .i64 0, .int .i64 0] (k := fun b20 w21 g22 hb23 k24 => ?_)
    have z25 := Nat.le_trans K.size g22
    have n26 := OwAt.off_new hb10 g22
    replace hb10 := hb10.adds k24
    replace K := K.trans (k24.any _)
    refine WL.store (v := GFate.val r15) (i := 0) (cs' := (Value.cells (GFate.val r15))) hb23 (k := fun w27 hb28 k29 => ?_)
    replace hb10 := hb10.keeps k29 (fun i hi e => (n26) (e ▸ hi))
    replace K := K.trans' k29 (fun i hi e => absurd (e ▸ hi) (Nat.not_lt.2 z25))
    clear hb23
    refine WL.nil ?_
    refine WX.seqN ?_
    refine WC.block ?_
    refine WC.seq ?_
    refine WC.region ?_
    refine WL.op (d := 18) (.pointer (some ⟨b20, 0, none⟩)) (k := ?_)
    refine WL.load (v := .int .i64 r15.kind) (ld1 (T := 3) (i := 0) hb28) (k := ?_)
    refine WL.op (d := 20) (.bool (r15.kind == 2)) (k := ?_)
    refine WL.op (d := 17) (.bool (r15.kind == 2)) (k := ?_)
    refine WL.nil ?_
    refine WX.seqN ?_
    refine WC.cond (b := r15.kind == 2) (ht := fun h30 => ?_) (hf := fun h30 => ?_)
    · have ph30 := eq_of_beq h30
      refine WC.region ?_
      refine WL.op (d := 21) (.slice Ao ((fatesU fs i).length) co) (k := ?_)
      refine WL.op (d := 22) (.pointer (some ⟨b20, 1, none⟩)) (k := ?_)
      refine WL.load (v := .int .i64 r15.at_) (ld1 (T := 3) (i := 1) hb28) (k := ?_)
      refine WL.callG (d := 24) (f := 20) (args := #[.int .i64 r15.at_]) (lnDigI_c (n := r15.at_) (hG.keeps K (fun _ _ x => x)) (by omega) (by omega)) (k := fun e_ w32 h_ => ⟨.string ⟨(Lib.itoa r15.at_).toArray⟩, h_.1, ?_⟩)
      have k33 := h_.2; clear h_
      replace hb10 := hb10.adds k33
      replace hb28 := k33.heap hb28 id
      replace K := K.trans (k33.any _)
      have il31 := itoa_le (n := r15.at_) (by omega) (by omega)
      refine WL.newF (d := 25) (T := 9) #[.string ⟨#[116, 111, 114, 110]⟩, .string ⟨(Lib.itoa r15.at_).toArray⟩] (fun b => .slice (some ⟨b, 0, none⟩) 2 2) (k := fun b34 w35 g36 hb37 k38 => ?_)
      have z39 := Nat.le_trans K.size g36
      have n40 := OwAt.off_new hb10 g36
      have n41 : b20 ≠ b34 := Nat.ne_of_lt (Nat.lt_of_lt_of_le (lt_of_heap hb28) g36)
      replace hb10 := hb10.adds k38
      replace hb28 := k38.heap hb28 id
      replace K := K.trans (k38.any _)
      refine WL.append (d := 26) (T := 46) (cl := strC) (xs := fatesU fs i) (ys := [[116, 111, 114, 110], Lib.itoa r15.at_]) (c := 2) ekStr hb10 (SlAt.of_lit (ys := [[116, 111, 114, 110], Lib.itoa r15.at_]) ekStr hb37 (by kernel_rfl)) (by simp; omega) (k := fun A42 c43 w44 ho45 k46 n47 => ?_)
      have ol48 := olink_step ol11 K n47
      have n49 := off_step n47 n26 (lt_of_heap hb28)
      replace hb28 := k46.heap hb28 n26
      replace K := K.trans' k46 (fun i hi e => absurd hi (Nat.not_lt.2 (ol11 i e)))
      clear hb10
      refine WL.op (d := 4) (.slice A42 ((fatesU fs i ++ [[116, 111, 114, 110], Lib.itoa r15.at_]).length) c43) (k := ?_)
      refine WL.nil ?_
      refine WX.blockN ?_
      refine WX.blockN ?_
      refine WX.seqN ?_
      refine WC.region ?_
      refine WL.opE (d := 38) (.int .i64 (IntKind.i64.wrap (i + 1))) (v := .int .i64 (i + 1)) (congrArg (Value.int .i64) (IntWalk.i64_in _ (by omega))) (k := ?_)
      refine WL.op (d := 10) (.int .i64 (i + 1)) (k := ?_)
      refine WL.nil ?_
      have e50 : fatesU fs i ++ [[116, 111, 114, 110], Lib.itoa r15.at_] = fatesU fs (i + 1) := fatesU_s2 i0 hr16 ph30
      rw [e50] at ho45
      refine WX.rw (t := 4) (v := .slice A42 ((fatesU fs (i + 1)).length) c43) (congrArg (fun l => Value.slice A42 (List.length l) c43) e50) (k := ?_)
      refine WX.round (i + 1, A42, c43) (by show (fs.length - (i + 1)).toNat < (fs.length - i).toNat; omega) ⟨(by kernel_rfl), (by kernel_rfl), (by kernel_rfl), (by kernel_rfl), (by kernel_rfl), (by kernel_rfl), trivial⟩ ⟨K, ho45, ol48, (by omega), (by omega), (okU_succ i0 hr16 iu (.inl ph30))⟩
    · have ph30 := ne_of_beq_false h30
      refine WC.seq ?_
      refine WC.region ?_
      refine WL.op (d := 28) (.pointer (some ⟨b20, 1, none⟩)) (k := ?_)
      refine WL.load (v := .int .i64 r15.at_) (ld1 (T := 3) (i := 1) hb28) (k := ?_)
      refine WL.op (d := 30) (.bool (r15.at_ != 0)) (k := ?_)
      refine WL.op (d := 27) (.bool (r15.at_ != 0)) (k := ?_)
      refine WL.nil ?_
      refine WX.seqN ?_
      refine WC.cond (b := r15.at_ != 0) (ht := fun h51 => ?_) (hf := fun h51 => ?_)
      · have ph51 := bne_iff_ne.1 h51
        refine WC.seq ?_
        refine WC.region ?_
        refine WL.op (d := 2) (.slice none 0 0) (k := ?_)
        refine WL.op (d := 3) (.bool false) (k := ?_)
        refine WL.nil ?_
        refine WX.seqN ?_
        refine WC.ret ?_
        refine WX.blockR ?_
        refine WX.blockR ?_
        refine WX.seqR ?_
        refine WX.seqR ?_
        refine WX.blockR ?_
        refine WX.seqR ?_
        refine WX.ret (rs := [.tmp 2, .tmp 3]) [.slice none 0 0, .bool false] (.tuple #[.slice none 0 0, .bool false]) ⟨(by kernel_rfl), (by kernel_rfl), trivial⟩ (k := ?_)
        have o_ := okU_bad hr16 (fun k => k.elim ph30 (fun k => by omega))
        have o2_ : ¬ fatesOk fs = true := by rw [o_]; decide
        exact ⟨none, 0, by rw [o_, fatesR, if_neg o2_]; rfl, by rw [fatesR, if_neg o2_]; exact OwAt.nil, K, by simp [blk]⟩
      · have ph51 := of_bne_false h51
        refine WC.seq ?_
        refine WC.region ?_
        refine WL.op (d := 32) (.pointer (some ⟨b20, 0, none⟩)) (k := ?_)
        refine WL.load (v := .int .i64 r15.kind) (ld1 (T := 3) (i := 0) hb28) (k := ?_)
        refine WL.op (d := 34) (.bool (r15.kind == 1)) (k := ?_)
        refine WL.op (d := 31) (.bool (r15.kind == 1)) (k := ?_)
        refine WL.nil ?_
        refine WX.seqN ?_
        refine WC.cond (b := r15.kind == 1) (ht := fun h52 => ?_) (hf := fun h52 => ?_)
        · have ph52 := eq_of_beq h52
          refine WC.region ?_
          refine WL.op (d := 35) (.slice Ao ((fatesU fs i).length) co) (k := ?_)
          refine WL.newF (d := 36) (T := 9) #[.string ⟨#[107, 101, 112, 116]⟩] (fun b => .slice (some ⟨b, 0, none⟩) 1 1) (k := fun b53 w54 g55 hb56 k57 => ?_)
          have z58 := Nat.le_trans K.size g55
          have n59 := OwAt.off_new hb10 g55
          have n60 : b20 ≠ b53 := Nat.ne_of_lt (Nat.lt_of_lt_of_le (lt_of_heap hb28) g55)
          replace hb10 := hb10.adds k57
          replace hb28 := k57.heap hb28 id
          replace K := K.trans (k57.any _)
          refine WL.append (d := 37) (T := 46) (cl := strC) (xs := fatesU fs i) (ys := [[107, 101, 112, 116]]) (c := 1) ekStr hb10 (SlAt.of_lit (ys := [[107, 101, 112, 116]]) ekStr hb56 (by kernel_rfl)) (by simp; omega) (k := fun A61 c62 w63 ho64 k65 n66 => ?_)
          have ol67 := olink_step ol11 K n66
          have n68 := off_step n66 n26 (lt_of_heap hb28)
          replace hb28 := k65.heap hb28 n26
          replace K := K.trans' k65 (fun i hi e => absurd hi (Nat.not_lt.2 (ol11 i e)))
          clear hb10
          refine WL.op (d := 4) (.slice A61 ((fatesU fs i ++ [[107, 101, 112, 116]]).length) c62) (k := ?_)
          refine WL.nil ?_
          refine WX.blockN ?_
          refine WX.blockN ?_
          refine WX.seqN ?_
          refine WC.region ?_
          refine WL.opE (d := 38) (.int .i64 (IntKind.i64.wrap (i + 1))) (v := .int .i64 (i + 1)) (congrArg (Value.int .i64) (IntWalk.i64_in _ (by omega))) (k := ?_)
          refine WL.op (d := 10) (.int .i64 (i + 1)) (k := ?_)
          refine WL.nil ?_
          have e69 : fatesU fs i ++ [[107, 101, 112, 116]] = fatesU fs (i + 1) := fatesU_s1 i0 hr16 ph30 ph52
          rw [e69] at ho64
          refine WX.rw (t := 4) (v := .slice A61 ((fatesU fs (i + 1)).length) c62) (congrArg (fun l => Value.slice A61 (List.length l) c62) e69) (k := ?_)
          refine WX.round (i + 1, A61, c62) (by show (fs.length - (i + 1)).toNat < (fs.length - i).toNat; omega) ⟨(by kernel_rfl), (by kernel_rfl), (by kernel_rfl), (by kernel_rfl), (by kernel_rfl), (by kernel_rfl), trivial⟩ ⟨K, ho64, ol67, (by omega), (by omega), (okU_succ i0 hr16 iu (by right; omega))⟩
        · have ph52 := ne_of_beq_false h52
          refine WC.region ?_
          refine WL.op (d := 14) (.slice Ao ((fatesU fs i).length) co) (k := ?_)
          refine WL.newF (d := 15) (T := 9) #[.string ⟨#[108, 111, 115, 116]⟩] (fun b => .slice (some ⟨b, 0, none⟩) 1 1) (k := fun b70 w71 g72 hb73 k74 => ?_)
          have z75 := Nat.le_trans K.size g72
          have n76 := OwAt.off_new hb10 g72
          have n77 : b20 ≠ b70 := Nat.ne_of_lt (Nat.lt_of_lt_of_le (lt_of_heap hb28) g72)
          replace hb10 := hb10.adds k74
          replace hb28 := k74.heap hb28 id
          replace K := K.trans (k74.any _)
          refine WL.append (d := 16) (T := 46) (cl := strC) (xs := fatesU fs i) (ys := [[108, 111, 115, 116]]) (c := 1) ekStr hb10 (SlAt.of_lit (ys := [[108, 111, 115, 116]]) ekStr hb73 (by kernel_rfl)) (by simp; omega) (k := fun A78 c79 w80 ho81 k82 n83 => ?_)
          have ol84 := olink_step ol11 K n83
          have n85 := off_step n83 n26 (lt_of_heap hb28)
          replace hb28 := k82.heap hb28 n26
          replace K := K.trans' k82 (fun i hi e => absurd hi (Nat.not_lt.2 (ol11 i e)))
          clear hb10
          refine WL.op (d := 4) (.slice A78 ((fatesU fs i ++ [[108, 111, 115, 116]]).length) c79) (k := ?_)
          refine WL.nil ?_
          refine WX.blockN ?_
          refine WX.blockN ?_
          refine WX.seqN ?_
          refine WC.region ?_
          refine WL.opE (d := 38) (.int .i64 (IntKind.i64.wrap (i + 1))) (v := .int .i64 (i + 1)) (congrArg (Value.int .i64) (IntWalk.i64_in _ (by omega))) (k := ?_)
          refine WL.op (d := 10) (.int .i64 (i + 1)) (k := ?_)
          refine WL.nil ?_
          have e86 : fatesU fs i ++ [[108, 111, 115, 116]] = fatesU fs (i + 1) := fatesU_s0 i0 hr16 ph30 ph52
          rw [e86] at ho81
          refine WX.rw (t := 4) (v := .slice A78 ((fatesU fs (i + 1)).length) c79) (congrArg (fun l => Value.slice A78 (List.length l) c79) e86) (k := ?_)
          refine WX.round (i + 1, A78, c79) (by show (fs.length - (i + 1)).toNat < (fs.length - i).toNat; omega) ⟨(by kernel_rfl), (by kernel_rfl), (by kernel_rfl), (by kernel_rfl), (by kernel_rfl), (by kernel_rfl), trivial⟩ ⟨K, ho81, ol84, (by omega), (by omega), (okU_succ i0 hr16 iu (by right; omega))⟩
  · have ph12 := of_decide_eq_false h12
    refine WC.exit ?_
    refine WX.seqE ?_
    refine WX.seqE ?_
    refine WX.blockE ?_
    refine WX.seqN ?_
    refine WC.seq ?_
    refine WC.region ?_
    refine WL.op (d := 39) (.slice Ao ((fatesU fs i).length) co) (k := ?_)
    refine WL.op (d := 2) (.slice Ao ((fatesU fs i).length) co) (k := ?_)
    refine WL.op (d := 3) (.bool true) (k := ?_)
    refine WL.nil ?_
    refine WX.seqN ?_
    refine WC.ret ?_
    refine WX.ret (rs := [.tmp 2, .tmp 3]) [.slice Ao ((fatesU fs i).length) co, .bool true] (.tuple #[.slice Ao ((fatesU fs i).length) co, .bool true]) ⟨(by kernel_rfl), (by kernel_rfl), trivial⟩ (k := ?_)
    have e_ := fatesU_end (fs := fs) (i := i) (by omega)
    have o_ := okU_end (i := i) (by omega) iu
    rw [e_] at hb10 ⊢
    exact ⟨_, _, by rw [o_, fatesR, if_pos o_], by rw [fatesR, if_pos o_]; exact hb10, K, ol11⟩
end Go.Proofs.YtoeinhlmkpgjhaaDoor
namespace Go.Proofs.YtoeinhlmkpgjhaaDoor
open Go.RowKit
set_option linter.unusedVariables false
set_option linter.unusedSimpArgs false
theorem opW_len {o : GOp} (h : o.ok) : (∀ x ∈ opW o, x.length ≤ 120) ∧ (opW o).length ≤ 3 := by
  obtain ⟨h1, h2, h3, h4, h5, h6⟩ := opok_rng h
  have i1 := itoa_le h1 h2
  have i2 := itoa_le h3 h4
  have i3 := itoa_le h5 h6
  have t1 := taskW_le o.task
  unfold opW
  split
  · refine ⟨fun x hx => ?_, by simp⟩
    simp only [List.mem_cons, List.not_mem_nil, or_false] at hx
    rcases hx with rfl | rfl
    · split <;> simp
    · exact t1
  · split
    · refine ⟨fun x hx => ?_, by simp⟩
      simp only [List.mem_cons, List.not_mem_nil, or_false] at hx
      rcases hx with rfl | rfl
      · simp
      · omega
    · split
      · refine ⟨fun x hx => ?_, by simp⟩
        simp only [List.mem_cons, List.not_mem_nil, or_false] at hx
        rcases hx with rfl | rfl | rfl
        · simp
        · omega
        · omega
      · refine ⟨fun x hx => ?_, by simp⟩
        simp only [List.mem_cons, List.not_mem_nil, or_false] at hx
        rcases hx with rfl | rfl
        · simp
        · omega
theorem fatesW_len {fs : List GFate} (h : ∀ f ∈ fs, f.ok) : (∀ x ∈ fatesW fs, x.length ≤ 120) ∧ (fatesW fs).length ≤ 2 * fs.length + 1 := by
  refine ⟨fun x hx => ?_, ?_⟩
  · unfold fatesW at hx
    rcases List.mem_append.1 hx with hx | hx
    · simp only [List.mem_cons, List.not_mem_nil, or_false] at hx
      rw [hx]; simp
    · obtain ⟨f, hf, hx⟩ := List.mem_flatMap.1 hx
      have hk := h f hf
      unfold GFate.ok at hk
      have i1 := itoa_le (n := f.at_) (by omega) (by omega)
      unfold fateW at hx
      split at hx
      · simp only [List.mem_cons, List.not_mem_nil, or_false] at hx
        rcases hx with rfl | rfl
        · simp
        · omega
      · split at hx
        · simp only [List.mem_cons, List.not_mem_nil, or_false] at hx
          rw [hx]; simp
        · simp only [List.mem_cons, List.not_mem_nil, or_false] at hx
          rw [hx]; simp
  · have := fatesU_len fs fs.length
    rw [fatesU_end (Int.le_refl _)] at this; exact this
theorem cmdW_len {p : PCmd} (h : p.ok) : (∀ x ∈ cmdW p, x.length ≤ 120) ∧ (cmdW p).length ≤ 140 := by
  obtain ⟨h1, h2, h3, h4⟩ := h
  unfold PCmd.rngs at h2
  have i1 := itoa_le (n := p.id) (by omega) (by omega)
  have i2 := itoa_le (n := p.work) (by omega) (by omega)
  have i3 := itoa_le (n := p.n) (by omega) (by omega)
  unfold cmdW
  split
  · next k => have := opW_len (h4 k); exact ⟨this.1, by omega⟩
  · repeat' split
    all_goals first
      | (have := fatesW_len h3; exact ⟨this.1, by omega⟩)
      | exact ⟨fun x hx => absurd hx (List.not_mem_nil), by simp⟩
      | (refine ⟨fun x hx => ?_, by simp⟩
         simp only [List.mem_cons, List.not_mem_nil, or_false] at hx
         first
          | (rcases hx with rfl | rfl | rfl <;> first | omega | (simp; done) | (simp; omega))
          | (rcases hx with rfl | rfl <;> first | omega | (simp; done) | (simp; omega))
          | (subst hx; simp))
theorem cmdW_jl {p : PCmd} (h : p.ok) : (joinL 32 (cmdW p)).length ≤ 16940 := by
  have h1 := cmdW_len h
  have h2 := joinL_len (c := 32) h1.1
  have h3 : (cmdW p).length * (120 + 1) ≤ 140 * 121 := Nat.mul_le_mul_right _ h1.2
  omega
theorem lineB_ok {p : PCmd} (h : lineB p = true) : p.ok := by
  unfold lineB at h
  simp only [Bool.and_eq_true] at h
  exact cok_t h.1
theorem lineW_le (p : PCmd) : (lineW p).length ≤ 16940 := by
  unfold lineW
  split
  · next h => exact cmdW_jl (lineB_ok h)
  · simp
theorem lineW_no {p : PCmd} (h : ¬ p.ok) : lineW p = [] := by
  unfold lineW
  rw [if_neg (fun k => h (lineB_ok k))]
theorem lineW_yes {p : PCmd} (h : p.ok) (k : p.kind = 8 → fatesOk p.fs = true) : lineW p = joinL 32 (cmdW p) := by
  have : lineB p = true := by
    unfold lineB
    rw [cok_eqt h]
    by_cases h8 : p.kind = 8
    · have := k h8; simp [this]
    · simp [h8]
  unfold lineW; rw [if_pos this]
theorem lineW_not {p : PCmd} (h8 : p.kind = 8) (k : fatesOk p.fs = false) : lineW p = [] := by
  have : ¬ lineB p = true := by
    unfold lineB
    rw [k, h8]; simp
  unfold lineW; rw [if_neg this]
def taskL (s : List UInt8) : List (List UInt8) := splitL 47 (Lib.cut s [58]).2.1 ++ [(Lib.cut s [58]).1]
def taskT (L : List (List UInt8)) : GTask := ⟨(numV (L.getD 4 []) : Nat), (numV (L.getD 0 []) : Nat), (numV (L.getD 1 []) : Nat), (numV (L.getD 2 []) : Nat), (numV (L.getD 3 []) : Nat)⟩
def taskP (s : List UInt8) : Prop := (Lib.cut s [58]).2.2 = true ∧ (taskL s).length = 5 ∧ (∀ x ∈ taskL s, numP x) ∧ (taskT (taskL s)).ok
instance (s : List UInt8) : Decidable (taskP s) := by unfold taskP; infer_instance
def taskV (s : List UInt8) : GTask := if taskP s then taskT (taskL s) else ⟨0, 0, 0, 0, 0⟩
theorem splitL_le (c : UInt8) : ∀ (l : List UInt8), ∀ x ∈ splitL c l, x.length ≤ l.length
  | [], x, hx => by simp [splitL] at hx; rw [hx]; simp
  | y :: l, x, hx => by
    have ih := splitL_le c l
    unfold splitL at hx
    split at hx
    · rcases List.mem_cons.1 hx with rfl | hx
      · simp
      · have := ih x hx; simp; omega
    · split at hx
      · simp at hx; rw [hx]; simp
      · next z zs hz =>
        rw [hz] at ih
        rcases List.mem_cons.1 hx with rfl | hx
        · have := ih z (List.mem_cons_self ..); simp; omega
        · have := ih x (List.mem_cons_of_mem _ hx); simp; omega
theorem taskL_le {s : List UInt8} {x : List UInt8} (hx : x ∈ taskL s) : x.length ≤ s.length := by
  have h1 := cut_le1 s 58
  have h2 := cut_le2 s 58
  unfold taskL at hx
  rcases List.mem_append.1 hx with hx | hx
  · exact Nat.le_trans (splitL_le 47 _ x hx) h2
  · simp at hx; rw [hx]; exact h1
theorem task_no {s : List UInt8} (h : ¬ taskP s) : taskV s = ⟨0, 0, 0, 0, 0⟩ ∧ decide (taskP s) = false := ⟨if_neg h, decide_eq_false h⟩
theorem task_nolen {s : List UInt8} (h : ¬ (taskL s).length = 5) : ¬ taskP s := fun k => h k.2.1
theorem task_nonum {s : List UInt8} {i : Nat} {x : List UInt8} (hx : (taskL s)[i]? = some x) (h : ¬ numP x) : ¬ taskP s := fun k => h (k.2.2.1 x (List.mem_of_getElem? hx))
theorem task_T {s : List UInt8} {r0 r1 r2 r3 r4 : List UInt8} (h0 : (taskL s)[0]? = some r0) (h1 : (taskL s)[1]? = some r1) (h2 : (taskL s)[2]? = some r2) (h3 : (taskL s)[3]? = some r3) (h4 : (taskL s)[4]? = some r4) : taskT (taskL s) = ⟨(numV r4 : Nat), (numV r0 : Nat), (numV r1 : Nat), (numV r2 : Nat), (numV r3 : Nat)⟩ := by
  unfold taskT
  simp only [List.getD_eq_getElem?_getD, h0, h1, h2, h3, h4, Option.getD_some]
theorem task_all {s : List UInt8} {r0 r1 r2 r3 r4 : List UInt8} (hl : (taskL s).length = 5) (h0 : (taskL s)[0]? = some r0) (h1 : (taskL s)[1]? = some r1) (h2 : (taskL s)[2]? = some r2) (h3 : (taskL s)[3]? = some r3) (h4 : (taskL s)[4]? = some r4)
    (n0 : numP r0) (n1 : numP r1) (n2 : numP r2) (n3 : numP r3) (n4 : numP r4) : ∀ x ∈ taskL s, numP x := by
  intro x hx
  obtain ⟨i, hi, rfl⟩ := List.getElem_of_mem hx
  rcases (show i = 0 ∨ i = 1 ∨ i = 2 ∨ i = 3 ∨ i = 4 by omega) with rfl | rfl | rfl | rfl | rfl
  · rw [List.getElem?_eq_getElem hi] at h0; cases h0; exact n0
  · rw [List.getElem?_eq_getElem hi] at h1; cases h1; exact n1
  · rw [List.getElem?_eq_getElem hi] at h2; cases h2; exact n2
  · rw [List.getElem?_eq_getElem hi] at h3; cases h3; exact n3
  · rw [List.getElem?_eq_getElem hi] at h4; cases h4; exact n4
theorem task_yes {s : List UInt8} {t : GTask} (hc : (Lib.cut s [58]).2.2 = true) (hl : (taskL s).length = 5) (ha : ∀ x ∈ taskL s, numP x) (ht : taskT (taskL s) = t) (hok : t.ok) : taskV s = t ∧ decide (taskP s) = true := by
  have h : taskP s := ⟨hc, hl, ha, ht ▸ hok⟩
  exact ⟨by rw [taskV, if_pos h, ht], decide_eq_true h⟩
end Go.Proofs.YtoeinhlmkpgjhaaDoor
namespace Go.Proofs.YtoeinhlmkpgjhaaDoor
open Go.RowKit
set_option linter.unusedVariables false
set_option linter.unusedSimpArgs false
set_option maxRecDepth 100000 in
set_option maxHeartbeats 4000000 in
theorem lnLine_c {c : GCmd} {w : World} (hG : GB w) (hc : SlAt fateC 2 89 c.A c.p.fs w) (lc : c.p.fs.length ≤ 1000000000) : Calls Tryd.prog 11 #[c.val] w fun e w' => e = .returned (.string ⟨(lineW c.p).toArray⟩) ∧ Adds w w' := by
  have K : Keeps (fun _ => False) w w := Keeps.refl _ w
  refine Calls.start Tryd.func11 rfl (by kernel_rfl) ?_
  refine WC.seq ?_
  refine WC.region ?_
  refine WL.new (d := 1) (T := 42) (Value.cells (GCmd.val c)) (k := fun b1 w2 g3 hb4 k5 => ?_)
  have z6 := Nat.le_trans K.size g3
  replace K := K.trans (k5.any _)
  refine WL.op (d := 2) (.string ⟨#[]⟩) (k := ?_)
  refine WL.nil ?_
  refine WX.seqN ?_
  refine WC.seq ?_
  refine WC.seq ?_
  refine WC.region ?_
  refine WL.load (v := GCmd.val c) (ldN (T := 42) (i := 0) (m := 15) (l := (Value.cells (GCmd.val c)).toList) hb4) (k := ?_)
  refine WL.callG (d := 7) (f := 25) (args := #[GCmd.val c]) (sCheck_c (c := c) (hc.adds K) (by first | omega | (simp; done) | (simp; omega))) (k := fun e_ w7 h_ => ⟨.bool (cokB c.p), h_.1, ?_⟩)
  have k8 := h_.2; clear h_
  replace hb4 := k8.heap hb4 id
  replace K := K.trans (k8.any _)
  refine WL.op (d := 8) (.bool (!(cokB c.p))) (k := ?_)
  refine WL.nil ?_
  refine WX.seqN ?_
  refine WC.cond (b := !(cokB c.p)) (ht := fun h9 => ?_) (hf := fun h9 => ?_)
  · have h10 : (cokB c.p) = false := Bool.not_inj (y := false) h9
    have ph10 := cok_f h10
    refine WC.seq ?_
    refine WC.region ?_
    refine WL.op (d := 2) (.string ⟨#[]⟩) (k := ?_)
    refine WL.nil ?_
    refine WX.seqN ?_
    refine WC.ret ?_
    refine WX.seqR ?_
    refine WX.ret (rs := [.tmp 2]) [.string ⟨#[]⟩] (.string ⟨#[]⟩) ⟨(by kernel_rfl), trivial⟩ (k := ?_)
    exact ⟨by rw [lineW_no (cok_f h10)], K⟩
  · have h11 : (cokB c.p) = true := Bool.not_inj (y := true) h9
    have ph11 := cok_t h11
    refine WC.skip ?_
    refine WX.seqN ?_
    refine WC.seq ?_
    have okc_ := cok_t h11
    obtain ⟨_, okr_, okf_, oko_⟩ := okc_
    unfold PCmd.rngs at okr_
    refine WC.region ?_
    refine WL.op (d := 3) (.slice none 0 0) (k := ?_)
    refine WL.nil ?_
    refine WX.seqN ?_
    refine WC.seq ?_
    refine WC.seq ?_
    refine WC.region ?_
    refine WL.op (d := 9) (.pointer (some ⟨b1, 0, none⟩)) (k := ?_)
    refine WL.load (v := .int .i64 c.p.kind) (ld1 (T := 3) (i := 0) hb4) (k := ?_)
    refine WL.nil ?_
    refine WX.seqN ?_
    refine WC.block ?_
    refine WC.seq ?_
    refine WC.region ?_
    refine WL.op (d := 12) (.bool (c.p.kind == 1)) (k := ?_)
    refine WL.op (d := 11) (.bool (c.p.kind == 1)) (k := ?_)
    refine WL.nil ?_
    refine WX.seqN ?_
    refine WC.cond (b := c.p.kind == 1) (ht := fun h12 => ?_) (hf := fun h12 => ?_)
    · have ph12 := eq_of_beq h12
      refine WC.region ?_
      refine WL.op (d := 13) (.pointer (some ⟨b1, 1, none⟩)) (k := ?_)
      refine WL.load (v := GOp.val c.p.op) (ldN (T := 39) (i := 1) (m := 10) (l := (Value.cells (GOp.val c.p.op)).toList) hb4) (k := ?_)
      refine WL.callG (d := 15) (f := 26) (args := #[GOp.val c.p.op]) (lnOp_c (o := c.p.op) (oko_ ph12) (hG.keeps K (fun _ _ x => x))) (k := fun e_ w13 h_ => ?_)
      obtain ⟨A14, c15, rfl, ho16, k17, ol18⟩ := h_
      refine ⟨_, rfl, ?_⟩
      have ol19 := fun i h => Nat.le_trans K.size (ol18 i h)
      replace hb4 := k17.heap hb4 id
      replace K := K.trans (k17.any _)
      clear ol18
      refine WL.op (d := 3) (.slice A14 ((opW c.p.op).length) c15) (k := ?_)
      refine WL.nil ?_
      refine WX.blockN ?_
      refine WX.seqN ?_
      refine WC.seq ?_
      refine WC.region ?_
      refine WL.op (d := 69) (.slice A14 ((opW c.p.op).length) c15) (k := ?_)
      have ok_ := cok_t h11
      have eo_ : opW c.p.op = cmdW c.p := by rw [cmdW, if_pos ph12]
      have jl_ := cmdW_jl ok_
      have cl_ := (cmdW_len ok_).2
      rw [← eo_] at jl_ cl_
      refine WL.callG (d := 70) (f := 21) (args := #[.slice A14 ((opW c.p.op).length) c15, .string ⟨#[32]⟩]) (lJoin_c (xs := opW c.p.op) (c := 32) (cap := c15) (ho16.sl ekStr) (SlAt.cell ho16) (by omega) (by omega)) (k := fun e_ w21 h_ => ⟨.string ⟨(joinL 32 (opW c.p.op)).toArray⟩, h_.1, ?_⟩)
      have k22 := h_.2; clear h_
      replace hb4 := k22.heap hb4 id
      replace ho16 := ho16.adds k22
      replace K := K.trans (k22.any _)
      have jl20 := jl_
      refine WL.op (d := 2) (.string ⟨(joinL 32 (opW c.p.op)).toArray⟩) (k := ?_)
      refine WL.nil ?_
      refine WX.seqN ?_
      refine WC.ret ?_
      refine WX.ret (rs := [.tmp 2]) [.string ⟨(joinL 32 (opW c.p.op)).toArray⟩] (.string ⟨(joinL 32 (opW c.p.op)).toArray⟩) ⟨(by kernel_rfl), trivial⟩ (k := ?_)
      exact ⟨by rw [eo_, lineW_yes ok_ (fun k => absurd k (by omega))], K⟩
    · have ph12 := ne_of_beq_false h12
      refine WC.seq ?_
      refine WC.region ?_
      refine WL.op (d := 17) (.bool (c.p.kind == 2)) (k := ?_)
      refine WL.op (d := 16) (.bool (c.p.kind == 2)) (k := ?_)
      refine WL.nil ?_
      refine WX.seqN ?_
      refine WC.cond (b := c.p.kind == 2) (ht := fun h23 => ?_) (hf := fun h23 => ?_)
      · have ph23 := eq_of_beq h23
        refine WC.mixed (fun _ => False) 7 (k := fun w24 k25 => ?_)
        replace hb4 := k25.heap hb4 id
        replace K := K.trans (k25.any _)
        have KC := Keeps.refl (fun _ => False) w24
        have bh26 := hb4
        have Kb := K
        refine WA.quiet 0 (d := 18) (.pointer (some ⟨b1, 11, none⟩)) KC (hi := rfl) (k := ?_)
        refine WA.quietR 1 (d := 19) (.int .i64 c.p.id) KC (exec_load (fun w_ k_ => ld1 (T := 3) (i := 11) (k_.heap bh26 id))) (hi := rfl) (k := ?_)
        refine WA.quiet 3 (d := 21) (.pointer (some ⟨b1, 12, none⟩)) KC (hi := rfl) (k := ?_)
        refine WA.quietR 4 (d := 22) (.int .i64 c.p.work) KC (exec_load (fun w_ k_ => ld1 (T := 2) (i := 12) (k_.heap bh26 id))) (hi := rfl) (k := ?_)
        refine WA.step 2 (hi := rfl) (k := ?_)
        refine WL.callG (d := 20) (f := 20) (args := #[.int .i64 c.p.id]) (lnDigI_c (n := c.p.id) (hG.keeps K (fun _ _ x => x)) (by omega) (by omega)) (k := fun e_ w28 h_ => ⟨.string ⟨(Lib.itoa c.p.id).toArray⟩, h_.1, ?_⟩)
        have k29 := h_.2; clear h_
        replace hb4 := k29.heap hb4 id
        replace K := K.trans (k29.any _)
        replace KC := KC.trans (k29.any _)
        have il27 := itoa_le (n := c.p.id) (by omega) (by omega)
        refine WL.nil ?_
        refine WX.nxt KC ?_
        refine WA.step 5 (hi := rfl) (k := ?_)
        refine WL.callG (d := 23) (f := 22) (args := #[.int .i64 c.p.work]) (lnDigL_c (n := c.p.work) (hG.keeps K (fun _ _ x => x)) (by omega) (by omega)) (k := fun e_ w31 h_ => ⟨.string ⟨(Lib.itoa c.p.work).toArray⟩, h_.1, ?_⟩)
        have k32 := h_.2; clear h_
        replace hb4 := k32.heap hb4 id
        replace K := K.trans (k32.any _)
        replace KC := KC.trans (k32.any _)
        have il30 := itoa_le (n := c.p.work) (by omega) (by omega)
        refine WL.nil ?_
        refine WX.nxt KC ?_
        refine WA.step 6 (hi := rfl) (k := ?_)
        refine WL.newF (d := 24) (T := 9) #[.string ⟨#[114, 101, 108, 101, 97, 115, 101]⟩, .string ⟨(Lib.itoa c.p.id).toArray⟩, .string ⟨(Lib.itoa c.p.work).toArray⟩] (fun b => .slice (some ⟨b, 0, none⟩) 3 3) (k := fun b33 w34 g35 hb36 k37 => ?_)
        have z38 := Nat.le_trans K.size g35
        have zc39 := Nat.le_trans KC.size g35
        have n40 : b1 ≠ b33 := Nat.ne_of_lt (Nat.lt_of_lt_of_le (lt_of_heap hb4) g35)
        replace hb4 := k37.heap hb4 id
        replace K := K.trans (k37.any _)
        replace KC := KC.trans (k37.any _)
        refine WL.nil ?_
        refine WX.nxt KC ?_
        refine WA.step 7 (hi := rfl) (k := ?_)
        refine WL.op (d := 3) (.slice (some ⟨b33, 0, none⟩) 3 3) (k := ?_)
        refine WL.nil ?_
        refine WX.nxtL ?_
        refine WA.done (k := ?_)
        clear KC
        refine WX.blockN ?_
        refine WX.seqN ?_
        refine WC.seq ?_
        refine WC.region ?_
        refine WL.op (d := 69) (.slice (some ⟨b33, 0, none⟩) 3 3) (k := ?_)
        have ok_ := cok_t h11
        have eo_ : [[114, 101, 108, 101, 97, 115, 101], Lib.itoa c.p.id, Lib.itoa c.p.work] = cmdW c.p := by rw [cmdW, if_neg ph12, if_pos ph23]
        have jl_ := cmdW_jl ok_
        have cl_ := (cmdW_len ok_).2
        rw [← eo_] at jl_ cl_
        refine WL.callG (d := 70) (f := 21) (args := #[.slice (some ⟨b33, 0, none⟩) 3 3, .string ⟨#[32]⟩]) (lJoin_c (xs := [[114, 101, 108, 101, 97, 115, 101], Lib.itoa c.p.id, Lib.itoa c.p.work]) (c := 32) (cap := 3) (SlAt.of_lit (ys := [[114, 101, 108, 101, 97, 115, 101], Lib.itoa c.p.id, Lib.itoa c.p.work]) ekStr hb36 (by kernel_rfl)) (by simp) (by omega) (by omega)) (k := fun e_ w42 h_ => ⟨.string ⟨(joinL 32 [[114, 101, 108, 101, 97, 115, 101], Lib.itoa c.p.id, Lib.itoa c.p.work]).toArray⟩, h_.1, ?_⟩)
        have k43 := h_.2; clear h_
        replace hb4 := k43.heap hb4 id
        replace hb36 := k43.heap hb36 id
        replace K := K.trans (k43.any _)
        have jl41 := jl_
        refine WL.op (d := 2) (.string ⟨(joinL 32 [[114, 101, 108, 101, 97, 115, 101], Lib.itoa c.p.id, Lib.itoa c.p.work]).toArray⟩) (k := ?_)
        refine WL.nil ?_
        refine WX.seqN ?_
        refine WC.ret ?_
        refine WX.ret (rs := [.tmp 2]) [.string ⟨(joinL 32 [[114, 101, 108, 101, 97, 115, 101], Lib.itoa c.p.id, Lib.itoa c.p.work]).toArray⟩] (.string ⟨(joinL 32 [[114, 101, 108, 101, 97, 115, 101], Lib.itoa c.p.id, Lib.itoa c.p.work]).toArray⟩) ⟨(by kernel_rfl), trivial⟩ (k := ?_)
        exact ⟨by rw [eo_, lineW_yes ok_ (fun k => absurd k (by omega))], K⟩
      · have ph23 := ne_of_beq_false h23
        refine WC.seq ?_
        refine WC.region ?_
        refine WL.op (d := 26) (.bool (c.p.kind == 3)) (k := ?_)
        refine WL.op (d := 25) (.bool (c.p.kind == 3)) (k := ?_)
        refine WL.nil ?_
        refine WX.seqN ?_
        refine WC.cond (b := c.p.kind == 3) (ht := fun h44 => ?_) (hf := fun h44 => ?_)
        · have ph44 := eq_of_beq h44
          refine WC.mixed (fun _ => False) 7 (k := fun w45 k46 => ?_)
          replace hb4 := k46.heap hb4 id
          replace K := K.trans (k46.any _)
          have KC := Keeps.refl (fun _ => False) w45
          have bh47 := hb4
          have Kb := K
          refine WA.quiet 0 (d := 27) (.pointer (some ⟨b1, 11, none⟩)) KC (hi := rfl) (k := ?_)
          refine WA.quietR 1 (d := 28) (.int .i64 c.p.id) KC (exec_load (fun w_ k_ => ld1 (T := 3) (i := 11) (k_.heap bh47 id))) (hi := rfl) (k := ?_)
          refine WA.quiet 3 (d := 30) (.pointer (some ⟨b1, 12, none⟩)) KC (hi := rfl) (k := ?_)
          refine WA.quietR 4 (d := 31) (.int .i64 c.p.work) KC (exec_load (fun w_ k_ => ld1 (T := 2) (i := 12) (k_.heap bh47 id))) (hi := rfl) (k := ?_)
          refine WA.step 2 (hi := rfl) (k := ?_)
          refine WL.callG (d := 29) (f := 20) (args := #[.int .i64 c.p.id]) (lnDigI_c (n := c.p.id) (hG.keeps K (fun _ _ x => x)) (by omega) (by omega)) (k := fun e_ w49 h_ => ⟨.string ⟨(Lib.itoa c.p.id).toArray⟩, h_.1, ?_⟩)
          have k50 := h_.2; clear h_
          replace hb4 := k50.heap hb4 id
          replace K := K.trans (k50.any _)
          replace KC := KC.trans (k50.any _)
          have il48 := itoa_le (n := c.p.id) (by omega) (by omega)
          refine WL.nil ?_
          refine WX.nxt KC ?_
          refine WA.step 5 (hi := rfl) (k := ?_)
          refine WL.callG (d := 32) (f := 22) (args := #[.int .i64 c.p.work]) (lnDigL_c (n := c.p.work) (hG.keeps K (fun _ _ x => x)) (by omega) (by omega)) (k := fun e_ w52 h_ => ⟨.string ⟨(Lib.itoa c.p.work).toArray⟩, h_.1, ?_⟩)
          have k53 := h_.2; clear h_
          replace hb4 := k53.heap hb4 id
          replace K := K.trans (k53.any _)
          replace KC := KC.trans (k53.any _)
          have il51 := itoa_le (n := c.p.work) (by omega) (by omega)
          refine WL.nil ?_
          refine WX.nxt KC ?_
          refine WA.step 6 (hi := rfl) (k := ?_)
          refine WL.newF (d := 33) (T := 9) #[.string ⟨#[97, 115, 107]⟩, .string ⟨(Lib.itoa c.p.id).toArray⟩, .string ⟨(Lib.itoa c.p.work).toArray⟩] (fun b => .slice (some ⟨b, 0, none⟩) 3 3) (k := fun b54 w55 g56 hb57 k58 => ?_)
          have z59 := Nat.le_trans K.size g56
          have zc60 := Nat.le_trans KC.size g56
          have n61 : b1 ≠ b54 := Nat.ne_of_lt (Nat.lt_of_lt_of_le (lt_of_heap hb4) g56)
          replace hb4 := k58.heap hb4 id
          replace K := K.trans (k58.any _)
          replace KC := KC.trans (k58.any _)
          refine WL.nil ?_
          refine WX.nxt KC ?_
          refine WA.step 7 (hi := rfl) (k := ?_)
          refine WL.op (d := 3) (.slice (some ⟨b54, 0, none⟩) 3 3) (k := ?_)
          refine WL.nil ?_
          refine WX.nxtL ?_
          refine WA.done (k := ?_)
          clear KC
          refine WX.blockN ?_
          refine WX.seqN ?_
          refine WC.seq ?_
          refine WC.region ?_
          refine WL.op (d := 69) (.slice (some ⟨b54, 0, none⟩) 3 3) (k := ?_)
          have ok_ := cok_t h11
          have eo_ : [[97, 115, 107], Lib.itoa c.p.id, Lib.itoa c.p.work] = cmdW c.p := by rw [cmdW, if_neg ph12, if_neg ph23, if_pos ph44]
          have jl_ := cmdW_jl ok_
          have cl_ := (cmdW_len ok_).2
          rw [← eo_] at jl_ cl_
          refine WL.callG (d := 70) (f := 21) (args := #[.slice (some ⟨b54, 0, none⟩) 3 3, .string ⟨#[32]⟩]) (lJoin_c (xs := [[97, 115, 107], Lib.itoa c.p.id, Lib.itoa c.p.work]) (c := 32) (cap := 3) (SlAt.of_lit (ys := [[97, 115, 107], Lib.itoa c.p.id, Lib.itoa c.p.work]) ekStr hb57 (by kernel_rfl)) (by simp) (by omega) (by omega)) (k := fun e_ w63 h_ => ⟨.string ⟨(joinL 32 [[97, 115, 107], Lib.itoa c.p.id, Lib.itoa c.p.work]).toArray⟩, h_.1, ?_⟩)
          have k64 := h_.2; clear h_
          replace hb4 := k64.heap hb4 id
          replace hb57 := k64.heap hb57 id
          replace K := K.trans (k64.any _)
          have jl62 := jl_
          refine WL.op (d := 2) (.string ⟨(joinL 32 [[97, 115, 107], Lib.itoa c.p.id, Lib.itoa c.p.work]).toArray⟩) (k := ?_)
          refine WL.nil ?_
          refine WX.seqN ?_
          refine WC.ret ?_
          refine WX.ret (rs := [.tmp 2]) [.string ⟨(joinL 32 [[97, 115, 107], Lib.itoa c.p.id, Lib.itoa c.p.work]).toArray⟩] (.string ⟨(joinL 32 [[97, 115, 107], Lib.itoa c.p.id, Lib.itoa c.p.work]).toArray⟩) ⟨(by kernel_rfl), trivial⟩ (k := ?_)
          exact ⟨by rw [eo_, lineW_yes ok_ (fun k => absurd k (by omega))], K⟩
        · have ph44 := ne_of_beq_false h44
          refine WC.seq ?_
          refine WC.region ?_
          refine WL.op (d := 35) (.bool (c.p.kind == 4)) (k := ?_)
          refine WL.op (d := 34) (.bool (c.p.kind == 4)) (k := ?_)
          refine WL.nil ?_
          refine WX.seqN ?_
          refine WC.cond (b := c.p.kind == 4) (ht := fun h65 => ?_) (hf := fun h65 => ?_)
          · have ph65 := eq_of_beq h65
            refine WC.region ?_
            refine WL.op (d := 36) (.pointer (some ⟨b1, 13, none⟩)) (k := ?_)
            refine WL.load (v := .int .i64 c.p.n) (ld1 (T := 3) (i := 13) hb4) (k := ?_)
            refine WL.callG (d := 38) (f := 20) (args := #[.int .i64 c.p.n]) (lnDigI_c (n := c.p.n) (hG.keeps K (fun _ _ x => x)) (by omega) (by omega)) (k := fun e_ w67 h_ => ⟨.string ⟨(Lib.itoa c.p.n).toArray⟩, h_.1, ?_⟩)
            have k68 := h_.2; clear h_
            replace hb4 := k68.heap hb4 id
            replace K := K.trans (k68.any _)
            have il66 := itoa_le (n := c.p.n) (by omega) (by omega)
            refine WL.newF (d := 39) (T := 9) #[.string ⟨#[116, 105, 99, 107]⟩, .string ⟨(Lib.itoa c.p.n).toArray⟩] (fun b => .slice (some ⟨b, 0, none⟩) 2 2) (k := fun b69 w70 g71 hb72 k73 => ?_)
            have z74 := Nat.le_trans K.size g71
            have n75 : b1 ≠ b69 := Nat.ne_of_lt (Nat.lt_of_lt_of_le (lt_of_heap hb4) g71)
            replace hb4 := k73.heap hb4 id
            replace K := K.trans (k73.any _)
            refine WL.op (d := 3) (.slice (some ⟨b69, 0, none⟩) 2 2) (k := ?_)
            refine WL.nil ?_
            refine WX.blockN ?_
            refine WX.seqN ?_
            refine WC.seq ?_
            refine WC.region ?_
            refine WL.op (d := 69) (.slice (some ⟨b69, 0, none⟩) 2 2) (k := ?_)
            have ok_ := cok_t h11
            have eo_ : [[116, 105, 99, 107], Lib.itoa c.p.n] = cmdW c.p := by rw [cmdW, if_neg ph12, if_neg ph23, if_neg ph44, if_pos ph65]
            have jl_ := cmdW_jl ok_
            have cl_ := (cmdW_len ok_).2
            rw [← eo_] at jl_ cl_
            refine WL.callG (d := 70) (f := 21) (args := #[.slice (some ⟨b69, 0, none⟩) 2 2, .string ⟨#[32]⟩]) (lJoin_c (xs := [[116, 105, 99, 107], Lib.itoa c.p.n]) (c := 32) (cap := 2) (SlAt.of_lit (ys := [[116, 105, 99, 107], Lib.itoa c.p.n]) ekStr hb72 (by kernel_rfl)) (by simp) (by omega) (by omega)) (k := fun e_ w77 h_ => ⟨.string ⟨(joinL 32 [[116, 105, 99, 107], Lib.itoa c.p.n]).toArray⟩, h_.1, ?_⟩)
            have k78 := h_.2; clear h_
            replace hb4 := k78.heap hb4 id
            replace hb72 := k78.heap hb72 id
            replace K := K.trans (k78.any _)
            have jl76 := jl_
            refine WL.op (d := 2) (.string ⟨(joinL 32 [[116, 105, 99, 107], Lib.itoa c.p.n]).toArray⟩) (k := ?_)
            refine WL.nil ?_
            refine WX.seqN ?_
            refine WC.ret ?_
            refine WX.ret (rs := [.tmp 2]) [.string ⟨(joinL 32 [[116, 105, 99, 107], Lib.itoa c.p.n]).toArray⟩] (.string ⟨(joinL 32 [[116, 105, 99, 107], Lib.itoa c.p.n]).toArray⟩) ⟨(by kernel_rfl), trivial⟩ (k := ?_)
            exact ⟨by rw [eo_, lineW_yes ok_ (fun k => absurd k (by omega))], K⟩
          · have ph65 := ne_of_beq_false h65
            refine WC.seq ?_
            refine WC.region ?_
            refine WL.op (d := 41) (.bool (c.p.kind == 5)) (k := ?_)
            refine WL.op (d := 40) (.bool (c.p.kind == 5)) (k := ?_)
            refine WL.nil ?_
            refine WX.seqN ?_
            refine WC.cond (b := c.p.kind == 5) (ht := fun h79 => ?_) (hf := fun h79 => ?_)
            · have ph79 := eq_of_beq h79
              refine WC.region ?_
              refine WL.op (d := 42) (.pointer (some ⟨b1, 11, none⟩)) (k := ?_)
              refine WL.load (v := .int .i64 c.p.id) (ld1 (T := 3) (i := 11) hb4) (k := ?_)
              refine WL.callG (d := 44) (f := 20) (args := #[.int .i64 c.p.id]) (lnDigI_c (n := c.p.id) (hG.keeps K (fun _ _ x => x)) (by omega) (by omega)) (k := fun e_ w81 h_ => ⟨.string ⟨(Lib.itoa c.p.id).toArray⟩, h_.1, ?_⟩)
              have k82 := h_.2; clear h_
              replace hb4 := k82.heap hb4 id
              replace K := K.trans (k82.any _)
              have il80 := itoa_le (n := c.p.id) (by omega) (by omega)
              refine WL.newF (d := 45) (T := 9) #[.string ⟨#[113, 117, 101, 114, 121]⟩, .string ⟨(Lib.itoa c.p.id).toArray⟩] (fun b => .slice (some ⟨b, 0, none⟩) 2 2) (k := fun b83 w84 g85 hb86 k87 => ?_)
              have z88 := Nat.le_trans K.size g85
              have n89 : b1 ≠ b83 := Nat.ne_of_lt (Nat.lt_of_lt_of_le (lt_of_heap hb4) g85)
              replace hb4 := k87.heap hb4 id
              replace K := K.trans (k87.any _)
              refine WL.op (d := 3) (.slice (some ⟨b83, 0, none⟩) 2 2) (k := ?_)
              refine WL.nil ?_
              refine WX.blockN ?_
              refine WX.seqN ?_
              refine WC.seq ?_
              refine WC.region ?_
              refine WL.op (d := 69) (.slice (some ⟨b83, 0, none⟩) 2 2) (k := ?_)
              have ok_ := cok_t h11
              have eo_ : [[113, 117, 101, 114, 121], Lib.itoa c.p.id] = cmdW c.p := by rw [cmdW, if_neg ph12, if_neg ph23, if_neg ph44, if_neg ph65, if_pos ph79]
              have jl_ := cmdW_jl ok_
              have cl_ := (cmdW_len ok_).2
              rw [← eo_] at jl_ cl_
              refine WL.callG (d := 70) (f := 21) (args := #[.slice (some ⟨b83, 0, none⟩) 2 2, .string ⟨#[32]⟩]) (lJoin_c (xs := [[113, 117, 101, 114, 121], Lib.itoa c.p.id]) (c := 32) (cap := 2) (SlAt.of_lit (ys := [[113, 117, 101, 114, 121], Lib.itoa c.p.id]) ekStr hb86 (by kernel_rfl)) (by simp) (by omega) (by omega)) (k := fun e_ w91 h_ => ⟨.string ⟨(joinL 32 [[113, 117, 101, 114, 121], Lib.itoa c.p.id]).toArray⟩, h_.1, ?_⟩)
              have k92 := h_.2; clear h_
              replace hb4 := k92.heap hb4 id
              replace hb86 := k92.heap hb86 id
              replace K := K.trans (k92.any _)
              have jl90 := jl_
              refine WL.op (d := 2) (.string ⟨(joinL 32 [[113, 117, 101, 114, 121], Lib.itoa c.p.id]).toArray⟩) (k := ?_)
              refine WL.nil ?_
              refine WX.seqN ?_
              refine WC.ret ?_
              refine WX.ret (rs := [.tmp 2]) [.string ⟨(joinL 32 [[113, 117, 101, 114, 121], Lib.itoa c.p.id]).toArray⟩] (.string ⟨(joinL 32 [[113, 117, 101, 114, 121], Lib.itoa c.p.id]).toArray⟩) ⟨(by kernel_rfl), trivial⟩ (k := ?_)
              exact ⟨by rw [eo_, lineW_yes ok_ (fun k => absurd k (by omega))], K⟩
            · have ph79 := ne_of_beq_false h79
              refine WC.seq ?_
              refine WC.region ?_
              refine WL.op (d := 47) (.bool (c.p.kind == 6)) (k := ?_)
              refine WL.op (d := 46) (.bool (c.p.kind == 6)) (k := ?_)
              refine WL.nil ?_
              refine WX.seqN ?_
              refine WC.cond (b := c.p.kind == 6) (ht := fun h93 => ?_) (hf := fun h93 => ?_)
              · have ph93 := eq_of_beq h93
                refine WC.region ?_
                refine WL.newF (d := 48) (T := 9) #[.string ⟨#[115, 110, 97, 112, 115, 104, 111, 116]⟩] (fun b => .slice (some ⟨b, 0, none⟩) 1 1) (k := fun b94 w95 g96 hb97 k98 => ?_)
                have z99 := Nat.le_trans K.size g96
                have n100 : b1 ≠ b94 := Nat.ne_of_lt (Nat.lt_of_lt_of_le (lt_of_heap hb4) g96)
                replace hb4 := k98.heap hb4 id
                replace K := K.trans (k98.any _)
                refine WL.op (d := 3) (.slice (some ⟨b94, 0, none⟩) 1 1) (k := ?_)
                refine WL.nil ?_
                refine WX.blockN ?_
                refine WX.seqN ?_
                refine WC.seq ?_
                refine WC.region ?_
                refine WL.op (d := 69) (.slice (some ⟨b94, 0, none⟩) 1 1) (k := ?_)
                have ok_ := cok_t h11
                have eo_ : [[115, 110, 97, 112, 115, 104, 111, 116]] = cmdW c.p := by rw [cmdW, if_neg ph12, if_neg ph23, if_neg ph44, if_neg ph65, if_neg ph79, if_pos ph93]
                have jl_ := cmdW_jl ok_
                have cl_ := (cmdW_len ok_).2
                rw [← eo_] at jl_ cl_
                refine WL.callG (d := 70) (f := 21) (args := #[.slice (some ⟨b94, 0, none⟩) 1 1, .string ⟨#[32]⟩]) (lJoin_c (xs := [[115, 110, 97, 112, 115, 104, 111, 116]]) (c := 32) (cap := 1) (SlAt.of_lit (ys := [[115, 110, 97, 112, 115, 104, 111, 116]]) ekStr hb97 (by kernel_rfl)) (by simp) (by omega) (by omega)) (k := fun e_ w102 h_ => ⟨.string ⟨(joinL 32 [[115, 110, 97, 112, 115, 104, 111, 116]]).toArray⟩, h_.1, ?_⟩)
                have k103 := h_.2; clear h_
                replace hb4 := k103.heap hb4 id
                replace hb97 := k103.heap hb97 id
                replace K := K.trans (k103.any _)
                have jl101 := jl_
                refine WL.op (d := 2) (.string ⟨(joinL 32 [[115, 110, 97, 112, 115, 104, 111, 116]]).toArray⟩) (k := ?_)
                refine WL.nil ?_
                refine WX.seqN ?_
                refine WC.ret ?_
                refine WX.ret (rs := [.tmp 2]) [.string ⟨(joinL 32 [[115, 110, 97, 112, 115, 104, 111, 116]]).toArray⟩] (.string ⟨(joinL 32 [[115, 110, 97, 112, 115, 104, 111, 116]]).toArray⟩) ⟨(by kernel_rfl), trivial⟩ (k := ?_)
                exact ⟨by rw [eo_, lineW_yes ok_ (fun k => absurd k (by omega))], K⟩
              · have ph93 := ne_of_beq_false h93
                refine WC.seq ?_
                refine WC.region ?_
                refine WL.op (d := 50) (.bool (c.p.kind == 7)) (k := ?_)
                refine WL.op (d := 49) (.bool (c.p.kind == 7)) (k := ?_)
                refine WL.nil ?_
                refine WX.seqN ?_
                refine WC.cond (b := c.p.kind == 7) (ht := fun h104 => ?_) (hf := fun h104 => ?_)
                · have ph104 := eq_of_beq h104
                  refine WC.region ?_
                  refine WL.op (d := 51) (.pointer (some ⟨b1, 13, none⟩)) (k := ?_)
                  refine WL.load (v := .int .i64 c.p.n) (ld1 (T := 3) (i := 13) hb4) (k := ?_)
                  refine WL.callG (d := 53) (f := 20) (args := #[.int .i64 c.p.n]) (lnDigI_c (n := c.p.n) (hG.keeps K (fun _ _ x => x)) (by omega) (by omega)) (k := fun e_ w106 h_ => ⟨.string ⟨(Lib.itoa c.p.n).toArray⟩, h_.1, ?_⟩)
                  have k107 := h_.2; clear h_
                  replace hb4 := k107.heap hb4 id
                  replace K := K.trans (k107.any _)
                  have il105 := itoa_le (n := c.p.n) (by omega) (by omega)
                  refine WL.newF (d := 54) (T := 9) #[.string ⟨#[102, 97, 105, 108]⟩, .string ⟨(Lib.itoa c.p.n).toArray⟩] (fun b => .slice (some ⟨b, 0, none⟩) 2 2) (k := fun b108 w109 g110 hb111 k112 => ?_)
                  have z113 := Nat.le_trans K.size g110
                  have n114 : b1 ≠ b108 := Nat.ne_of_lt (Nat.lt_of_lt_of_le (lt_of_heap hb4) g110)
                  replace hb4 := k112.heap hb4 id
                  replace K := K.trans (k112.any _)
                  refine WL.op (d := 3) (.slice (some ⟨b108, 0, none⟩) 2 2) (k := ?_)
                  refine WL.nil ?_
                  refine WX.blockN ?_
                  refine WX.seqN ?_
                  refine WC.seq ?_
                  refine WC.region ?_
                  refine WL.op (d := 69) (.slice (some ⟨b108, 0, none⟩) 2 2) (k := ?_)
                  have ok_ := cok_t h11
                  have eo_ : [[102, 97, 105, 108], Lib.itoa c.p.n] = cmdW c.p := by rw [cmdW, if_neg ph12, if_neg ph23, if_neg ph44, if_neg ph65, if_neg ph79, if_neg ph93, if_pos ph104]
                  have jl_ := cmdW_jl ok_
                  have cl_ := (cmdW_len ok_).2
                  rw [← eo_] at jl_ cl_
                  refine WL.callG (d := 70) (f := 21) (args := #[.slice (some ⟨b108, 0, none⟩) 2 2, .string ⟨#[32]⟩]) (lJoin_c (xs := [[102, 97, 105, 108], Lib.itoa c.p.n]) (c := 32) (cap := 2) (SlAt.of_lit (ys := [[102, 97, 105, 108], Lib.itoa c.p.n]) ekStr hb111 (by kernel_rfl)) (by simp) (by omega) (by omega)) (k := fun e_ w116 h_ => ⟨.string ⟨(joinL 32 [[102, 97, 105, 108], Lib.itoa c.p.n]).toArray⟩, h_.1, ?_⟩)
                  have k117 := h_.2; clear h_
                  replace hb4 := k117.heap hb4 id
                  replace hb111 := k117.heap hb111 id
                  replace K := K.trans (k117.any _)
                  have jl115 := jl_
                  refine WL.op (d := 2) (.string ⟨(joinL 32 [[102, 97, 105, 108], Lib.itoa c.p.n]).toArray⟩) (k := ?_)
                  refine WL.nil ?_
                  refine WX.seqN ?_
                  refine WC.ret ?_
                  refine WX.ret (rs := [.tmp 2]) [.string ⟨(joinL 32 [[102, 97, 105, 108], Lib.itoa c.p.n]).toArray⟩] (.string ⟨(joinL 32 [[102, 97, 105, 108], Lib.itoa c.p.n]).toArray⟩) ⟨(by kernel_rfl), trivial⟩ (k := ?_)
                  exact ⟨by rw [eo_, lineW_yes ok_ (fun k => absurd k (by omega))], K⟩
                · have ph104 := ne_of_beq_false h104
                  refine WC.seq ?_
                  refine WC.region ?_
                  refine WL.op (d := 56) (.bool (c.p.kind == 8)) (k := ?_)
                  refine WL.op (d := 55) (.bool (c.p.kind == 8)) (k := ?_)
                  refine WL.nil ?_
                  refine WX.seqN ?_
                  refine WC.cond (b := c.p.kind == 8) (ht := fun h118 => ?_) (hf := fun h118 => ?_)
                  · have ph118 := eq_of_beq h118
                    refine WC.seq ?_
                    refine WC.region ?_
                    refine WL.op (d := 58) (.pointer (some ⟨b1, 14, none⟩)) (k := ?_)
                    refine WL.load (v := .slice c.A c.p.fs.length c.cap) (ld1 (T := 40) (i := 14) hb4) (k := ?_)
                    refine WL.callG (d := 60) (f := 27) (args := #[.slice c.A c.p.fs.length c.cap]) (lnFates_c (cp := c.cap) (hG.keeps K (fun _ _ x => x)) (hc.adds K) (by omega) okf_) (k := fun e_ w119 h_ => ?_)
                    obtain ⟨A120, c121, rfl, ho122, k123, ol124⟩ := h_
                    refine ⟨_, rfl, ?_⟩
                    have ol125 := fun i h => Nat.le_trans K.size (ol124 i h)
                    replace hb4 := k123.heap hb4 id
                    replace K := K.trans (k123.any _)
                    clear ol124
                    refine WL.op (d := 57) (.tuple #[.slice A120 ((fatesR c.p.fs).length) c121, .bool (fatesOk c.p.fs)]) (k := ?_)
                    refine WL.op (d := 61) (.slice A120 ((fatesR c.p.fs).length) c121) (k := ?_)
                    refine WL.op (d := 62) (.bool (fatesOk c.p.fs)) (k := ?_)
                    refine WL.op (d := 4) (.slice A120 ((fatesR c.p.fs).length) c121) (k := ?_)
                    refine WL.op (d := 5) (.bool (fatesOk c.p.fs)) (k := ?_)
                    refine WL.nil ?_
                    refine WX.seqN ?_
                    refine WC.seq ?_
                    refine WC.seq ?_
                    refine WC.region ?_
                    refine WL.op (d := 63) (.bool (fatesOk c.p.fs)) (k := ?_)
                    refine WL.op (d := 64) (.bool (!(fatesOk c.p.fs))) (k := ?_)
                    refine WL.nil ?_
                    refine WX.seqN ?_
                    refine WC.cond (b := !(fatesOk c.p.fs)) (ht := fun h126 => ?_) (hf := fun h126 => ?_)
                    · have h127 : (fatesOk c.p.fs) = false := Bool.not_inj (y := false) h126
                      refine WC.seq ?_
                      refine WC.region ?_
                      refine WL.op (d := 2) (.string ⟨#[]⟩) (k := ?_)
                      refine WL.nil ?_
                      refine WX.seqN ?_
                      refine WC.ret ?_
                      refine WX.seqR ?_
                      refine WX.blockR ?_
                      refine WX.seqR ?_
                      refine WX.ret (rs := [.tmp 2]) [.string ⟨#[]⟩] (.string ⟨#[]⟩) ⟨(by kernel_rfl), trivial⟩ (k := ?_)
                      exact ⟨by rw [lineW_not ph118 h127], K⟩
                    · have h128 : (fatesOk c.p.fs) = true := Bool.not_inj (y := true) h126
                      refine WC.skip ?_
                      refine WX.seqN ?_
                      refine WC.region ?_
                      refine WL.op (d := 65) (.slice A120 ((fatesR c.p.fs).length) c121) (k := ?_)
                      refine WL.op (d := 3) (.slice A120 ((fatesR c.p.fs).length) c121) (k := ?_)
                      refine WL.nil ?_
                      refine WX.blockN ?_
                      refine WX.seqN ?_
                      refine WC.seq ?_
                      refine WC.region ?_
                      refine WL.op (d := 69) (.slice A120 ((fatesR c.p.fs).length) c121) (k := ?_)
                      have ok_ := cok_t h11
                      have eo_ : fatesR c.p.fs = cmdW c.p := by rw [fatesR, if_pos h128, cmdW, if_neg ph12, if_neg ph23, if_neg ph44, if_neg ph65, if_neg ph79, if_neg ph93, if_neg ph104, if_pos ph118]
                      have jl_ := cmdW_jl ok_
                      have cl_ := (cmdW_len ok_).2
                      rw [← eo_] at jl_ cl_
                      refine WL.callG (d := 70) (f := 21) (args := #[.slice A120 ((fatesR c.p.fs).length) c121, .string ⟨#[32]⟩]) (lJoin_c (xs := fatesR c.p.fs) (c := 32) (cap := c121) (ho122.sl ekStr) (SlAt.cell ho122) (by omega) (by omega)) (k := fun e_ w130 h_ => ⟨.string ⟨(joinL 32 (fatesR c.p.fs)).toArray⟩, h_.1, ?_⟩)
                      have k131 := h_.2; clear h_
                      replace hb4 := k131.heap hb4 id
                      replace ho122 := ho122.adds k131
                      replace K := K.trans (k131.any _)
                      have jl129 := jl_
                      refine WL.op (d := 2) (.string ⟨(joinL 32 (fatesR c.p.fs)).toArray⟩) (k := ?_)
                      refine WL.nil ?_
                      refine WX.seqN ?_
                      refine WC.ret ?_
                      refine WX.ret (rs := [.tmp 2]) [.string ⟨(joinL 32 (fatesR c.p.fs)).toArray⟩] (.string ⟨(joinL 32 (fatesR c.p.fs)).toArray⟩) ⟨(by kernel_rfl), trivial⟩ (k := ?_)
                      exact ⟨by rw [eo_, lineW_yes ok_ (fun _ => h128)], K⟩
                  · have ph118 := ne_of_beq_false h118
                    refine WC.seq ?_
                    refine WC.region ?_
                    refine WL.op (d := 67) (.bool (c.p.kind == 9)) (k := ?_)
                    refine WL.op (d := 66) (.bool (c.p.kind == 9)) (k := ?_)
                    refine WL.nil ?_
                    refine WX.seqN ?_
                    refine WC.cond (b := c.p.kind == 9) (ht := fun h132 => ?_) (hf := fun h132 => ?_)
                    · have ph132 := eq_of_beq h132
                      refine WC.region ?_
                      refine WL.newF (d := 68) (T := 9) #[.string ⟨#[115, 116, 97, 114, 116]⟩] (fun b => .slice (some ⟨b, 0, none⟩) 1 1) (k := fun b133 w134 g135 hb136 k137 => ?_)
                      have z138 := Nat.le_trans K.size g135
                      have n139 : b1 ≠ b133 := Nat.ne_of_lt (Nat.lt_of_lt_of_le (lt_of_heap hb4) g135)
                      replace hb4 := k137.heap hb4 id
                      replace K := K.trans (k137.any _)
                      refine WL.op (d := 3) (.slice (some ⟨b133, 0, none⟩) 1 1) (k := ?_)
                      refine WL.nil ?_
                      refine WX.blockN ?_
                      refine WX.seqN ?_
                      refine WC.seq ?_
                      refine WC.region ?_
                      refine WL.op (d := 69) (.slice (some ⟨b133, 0, none⟩) 1 1) (k := ?_)
                      have ok_ := cok_t h11
                      have eo_ : [[115, 116, 97, 114, 116]] = cmdW c.p := by rw [cmdW, if_neg ph12, if_neg ph23, if_neg ph44, if_neg ph65, if_neg ph79, if_neg ph93, if_neg ph104, if_neg ph118, if_pos ph132]
                      have jl_ := cmdW_jl ok_
                      have cl_ := (cmdW_len ok_).2
                      rw [← eo_] at jl_ cl_
                      refine WL.callG (d := 70) (f := 21) (args := #[.slice (some ⟨b133, 0, none⟩) 1 1, .string ⟨#[32]⟩]) (lJoin_c (xs := [[115, 116, 97, 114, 116]]) (c := 32) (cap := 1) (SlAt.of_lit (ys := [[115, 116, 97, 114, 116]]) ekStr hb136 (by kernel_rfl)) (by simp) (by omega) (by omega)) (k := fun e_ w141 h_ => ⟨.string ⟨(joinL 32 [[115, 116, 97, 114, 116]]).toArray⟩, h_.1, ?_⟩)
                      have k142 := h_.2; clear h_
                      replace hb4 := k142.heap hb4 id
                      replace hb136 := k142.heap hb136 id
                      replace K := K.trans (k142.any _)
                      have jl140 := jl_
                      refine WL.op (d := 2) (.string ⟨(joinL 32 [[115, 116, 97, 114, 116]]).toArray⟩) (k := ?_)
                      refine WL.nil ?_
                      refine WX.seqN ?_
                      refine WC.ret ?_
                      refine WX.ret (rs := [.tmp 2]) [.string ⟨(joinL 32 [[115, 116, 97, 114, 116]]).toArray⟩] (.string ⟨(joinL 32 [[115, 116, 97, 114, 116]]).toArray⟩) ⟨(by kernel_rfl), trivial⟩ (k := ?_)
                      exact ⟨by rw [eo_, lineW_yes ok_ (fun k => absurd k (by omega))], K⟩
                    · have ph132 := ne_of_beq_false h132
                      refine WC.skip ?_
                      refine WX.blockN ?_
                      refine WX.seqN ?_
                      refine WC.seq ?_
                      refine WC.region ?_
                      refine WL.op (d := 69) (.slice none 0 0) (k := ?_)
                      have ok_ := cok_t h11
                      have eo_ : [] = cmdW c.p := by rw [cmdW, if_neg ph12, if_neg ph23, if_neg ph44, if_neg ph65, if_neg ph79, if_neg ph93, if_neg ph104, if_neg ph118, if_neg ph132]
                      have jl_ := cmdW_jl ok_
                      have cl_ := (cmdW_len ok_).2
                      rw [← eo_] at jl_ cl_
                      refine WL.callG (d := 70) (f := 21) (args := #[.slice none 0 0, .string ⟨#[32]⟩]) (lJoin_c (xs := []) (c := 32) (cap := 0) SlAt.nil (by simp) (by omega) (by omega)) (k := fun e_ w144 h_ => ⟨.string ⟨(joinL 32 []).toArray⟩, h_.1, ?_⟩)
                      have k145 := h_.2; clear h_
                      replace hb4 := k145.heap hb4 id
                      replace K := K.trans (k145.any _)
                      have jl143 := jl_
                      refine WL.op (d := 2) (.string ⟨(joinL 32 []).toArray⟩) (k := ?_)
                      refine WL.nil ?_
                      refine WX.seqN ?_
                      refine WC.ret ?_
                      refine WX.ret (rs := [.tmp 2]) [.string ⟨(joinL 32 []).toArray⟩] (.string ⟨(joinL 32 []).toArray⟩) ⟨(by kernel_rfl), trivial⟩ (k := ?_)
                      exact ⟨by rw [eo_, lineW_yes ok_ (fun k => absurd k (by omega))], K⟩
theorem lSplit_k {w : World} {l : List UInt8} {c : UInt8} (h : GB w) (hl : l.length < 4294967281) : Calls Tryd.prog 15 #[.string ⟨l.toArray⟩, .string ⟨#[c]⟩] w fun e w' => ∃ A cap, e = .returned (.slice A (splitL c l).length cap) ∧ OwAt strC 1 9 A cap (splitL c l) w' ∧ Adds w w' ∧ (∀ i, blk A = some i → w.heap.size ≤ i) :=
  (lSplit_c h hl).mono fun e w' ⟨A, cap, h1, h2, h3, h4⟩ => ⟨A, cap, h1, h2, h4, h3⟩
set_option maxRecDepth 100000 in
set_option maxHeartbeats 4000000 in
theorem lnParseTask_c {l : List UInt8} (hl : l.length ≤ 4294967000) {w : World} (hG : GB w) : Calls Tryd.prog 9 #[.string ⟨l.toArray⟩] w fun e w' => e = .returned (.tuple #[(taskV l).val, .bool (decide (taskP l))]) ∧ Adds w w' := by
  have K : Keeps (fun _ => False) w w := Keeps.refl _ w
  refine Calls.start Tryd.func9 rfl (by kernel_rfl) ?_
  refine WC.seq ?_
  refine WC.region ?_
  refine WL.new (d := 2) (T := 31) #[.int .i64 0, .int .i64 0, .int .i64 0, .int .i64 0, .int .i64 0] (k := fun b1 w2 g3 hb4 k5 => ?_)
  have z6 := Nat.le_trans K.size g3
  replace K := K.trans (k5.any _)
  refine WL.op (d := 3) (.bool false) (k := ?_)
  refine WL.nil ?_
  refine WX.seqN ?_
  refine WC.seq ?_
  refine WC.region ?_
  refine WL.op (d := 15) (.string ⟨(l).toArray⟩) (k := ?_)
  refine WL.callG (d := 16) (f := 23) (args := #[.string ⟨(l).toArray⟩, .string ⟨#[58]⟩]) (lCut_c (l := l) (c := 58) (hG.keeps K (fun _ _ x => x)) (by omega)) (k := fun e_ w9 h_ => ⟨.tuple #[.string ⟨((Lib.cut l [58]).1).toArray⟩, .string ⟨((Lib.cut l [58]).2.1).toArray⟩, .bool ((Lib.cut l [58]).2.2)], h_.1, ?_⟩)
  have k10 := h_.2; clear h_
  replace hb4 := k10.heap hb4 id
  replace K := K.trans (k10.any _)
  have cl7 := cut_le1 l 58
  have cl8 := cut_le2 l 58
  refine WL.op (d := 14) (.tuple #[.string ⟨((Lib.cut l [58]).1).toArray⟩, .string ⟨((Lib.cut l [58]).2.1).toArray⟩, .bool ((Lib.cut l [58]).2.2)]) (k := ?_)
  refine WL.op (d := 17) (.string ⟨((Lib.cut l [58]).1).toArray⟩) (k := ?_)
  refine WL.op (d := 18) (.string ⟨((Lib.cut l [58]).2.1).toArray⟩) (k := ?_)
  refine WL.op (d := 19) (.bool ((Lib.cut l [58]).2.2)) (k := ?_)
  refine WL.op (d := 4) (.string ⟨((Lib.cut l [58]).1).toArray⟩) (k := ?_)
  refine WL.op (d := 5) (.string ⟨((Lib.cut l [58]).2.1).toArray⟩) (k := ?_)
  refine WL.op (d := 6) (.bool ((Lib.cut l [58]).2.2)) (k := ?_)
  refine WL.nil ?_
  refine WX.seqN ?_
  refine WC.seq ?_
  refine WC.region ?_
  refine WL.op (d := 20) (.string ⟨((Lib.cut l [58]).2.1).toArray⟩) (k := ?_)
  refine WL.callG (d := 21) (f := 15) (args := #[.string ⟨((Lib.cut l [58]).2.1).toArray⟩, .string ⟨#[47]⟩]) (lSplit_k (c := 47) (l := ((Lib.cut l [58]).2.1)) (hG.keeps K (fun _ _ x => x)) (by omega)) (k := fun e_ w11 h_ => ?_)
  obtain ⟨A12, c13, rfl, ho14, k15, ol16⟩ := h_
  refine ⟨_, rfl, ?_⟩
  have ol17 := fun i h => Nat.le_trans K.size (ol16 i h)
  replace hb4 := k15.heap hb4 id
  replace K := K.trans (k15.any _)
  clear ol16
  refine WL.op (d := 7) (.slice A12 ((splitL 47 ((Lib.cut l [58]).2.1)).length) c13) (k := ?_)
  refine WL.nil ?_
  refine WX.seqN ?_
  refine WC.seq ?_
  refine WC.seq ?_
  refine WC.region ?_
  refine WL.op (d := 22) (.bool ((Lib.cut l [58]).2.2)) (k := ?_)
  refine WL.op (d := 23) (.bool (!((Lib.cut l [58]).2.2))) (k := ?_)
  refine WL.op (d := 24) (.bool (!((Lib.cut l [58]).2.2))) (k := ?_)
  refine bsplit (!((Lib.cut l [58]).2.2)) (fun h18 => ?_) (fun h18 => ?_)
  · have h19 : ((Lib.cut l [58]).2.2) = false := Bool.not_inj (y := false) h18
    refine WL.rw (t := 24) (v := .bool true) (congrArg Value.bool h18) (k := ?_)
    refine WL.skip (d := 25) (k := ?_)
    refine WL.skip (d := 26) (k := ?_)
    refine WL.skip (d := 27) (k := ?_)
    refine WL.op (d := 28) (.bool true) (k := ?_)
    refine WL.nil ?_
    refine WX.seqN ?_
    refine WC.condT (k := ?_)
    refine WC.seq ?_
    refine WC.region ?_
    refine WL.op (d := 29) (.agg #[.int .i64 0, .int .i64 0, .int .i64 0, .int .i64 0, .int .i64 0]) (k := ?_)
    refine WL.store (v := .agg #[.int .i64 0, .int .i64 0, .int .i64 0, .int .i64 0, .int .i64 0]) (i := 0) (cs' := #[.int .i64 0, .int .i64 0, .int .i64 0, .int .i64 0, .int .i64 0]) hb4 (k := fun w20 hb21 k22 => ?_)
    replace ho14 := ho14.keeps k22 (fun i hi e => (ho14.offT hb4 (by decide)) (e ▸ hi))
    replace K := K.trans' k22 (fun i hi e => absurd (e ▸ hi) (Nat.not_lt.2 z6))
    clear hb4
    refine WL.op (d := 3) (.bool false) (k := ?_)
    refine WL.nil ?_
    refine WX.seqN ?_
    refine WC.ret ?_
    refine WX.seqR ?_
    refine WX.ret (rs := [.cell 2 31, .tmp 3]) [.agg #[.int .i64 0, .int .i64 0, .int .i64 0, .int .i64 0, .int .i64 0], .bool false] (.tuple #[.agg #[.int .i64 0, .int .i64 0, .int .i64 0, .int .i64 0, .int .i64 0], .bool false]) ⟨⟨_, (by kernel_rfl), ldN (T := 31) (i := 0) (m := 5) (l := [.int .i64 0, .int .i64 0, .int .i64 0, .int .i64 0, .int .i64 0]) hb21⟩, (by kernel_rfl), trivial⟩ (k := ?_)
    obtain ⟨e1_, e2_⟩ := task_no (s := l) (fun k_ => by rw [k_.1] at h19; cases h19)
    exact ⟨by rw [e1_, e2_], K⟩
  · have h23 : ((Lib.cut l [58]).2.2) = true := Bool.not_inj (y := true) h18
    refine WL.rw (t := 24) (v := .bool false) (congrArg Value.bool h18) (k := ?_)
    refine WL.op (d := 25) (.slice A12 ((splitL 47 ((Lib.cut l [58]).2.1)).length) c13) (k := ?_)
    refine WL.op (d := 26) (.int .i64 ((splitL 47 ((Lib.cut l [58]).2.1)).length : Int)) (k := ?_)
    refine WL.op (d := 27) (.bool (((splitL 47 ((Lib.cut l [58]).2.1)).length : Int) != 4)) (k := ?_)
    refine WL.op (d := 28) (.bool (((splitL 47 ((Lib.cut l [58]).2.1)).length : Int) != 4)) (k := ?_)
    refine WL.nil ?_
    refine WX.seqN ?_
    refine WC.cond (b := ((splitL 47 ((Lib.cut l [58]).2.1)).length : Int) != 4) (ht := fun h24 => ?_) (hf := fun h24 => ?_)
    · have ph24 := bne_iff_ne.1 h24
      refine WC.seq ?_
      refine WC.region ?_
      refine WL.op (d := 29) (.agg #[.int .i64 0, .int .i64 0, .int .i64 0, .int .i64 0, .int .i64 0]) (k := ?_)
      refine WL.store (v := .agg #[.int .i64 0, .int .i64 0, .int .i64 0, .int .i64 0, .int .i64 0]) (i := 0) (cs' := #[.int .i64 0, .int .i64 0, .int .i64 0, .int .i64 0, .int .i64 0]) hb4 (k := fun w25 hb26 k27 => ?_)
      replace ho14 := ho14.keeps k27 (fun i hi e => (ho14.offT hb4 (by decide)) (e ▸ hi))
      replace K := K.trans' k27 (fun i hi e => absurd (e ▸ hi) (Nat.not_lt.2 z6))
      clear hb4
      refine WL.op (d := 3) (.bool false) (k := ?_)
      refine WL.nil ?_
      refine WX.seqN ?_
      refine WC.ret ?_
      refine WX.seqR ?_
      refine WX.ret (rs := [.cell 2 31, .tmp 3]) [.agg #[.int .i64 0, .int .i64 0, .int .i64 0, .int .i64 0, .int .i64 0], .bool false] (.tuple #[.agg #[.int .i64 0, .int .i64 0, .int .i64 0, .int .i64 0, .int .i64 0], .bool false]) ⟨⟨_, (by kernel_rfl), ldN (T := 31) (i := 0) (m := 5) (l := [.int .i64 0, .int .i64 0, .int .i64 0, .int .i64 0, .int .i64 0]) hb26⟩, (by kernel_rfl), trivial⟩ (k := ?_)
      obtain ⟨e1_, e2_⟩ := task_no (s := l) (task_nolen (fun k_ => by unfold taskL at k_; simp only [List.length_append, List.length_cons, List.length_nil] at k_; omega))
      exact ⟨by rw [e1_, e2_], K⟩
    · have ph24 := of_bne_false h24
      refine WC.skip ?_
      refine WX.seqN ?_
      refine WC.seq ?_
      refine WC.region ?_
      refine WL.new (d := 8) (T := 60) #[.int .i64 0, .int .i64 0, .int .i64 0, .int .i64 0, .int .i64 0] (k := fun b28 w29 g30 hb31 k32 => ?_)
      have z33 := Nat.le_trans K.size g30
      have n34 : b1 ≠ b28 := Nat.ne_of_lt (Nat.lt_of_lt_of_le (lt_of_heap hb4) g30)
      have n35 := OwAt.off_new ho14 g30
      replace hb4 := k32.heap hb4 id
      replace ho14 := ho14.adds k32
      replace K := K.trans (k32.any _)
      refine WL.nil ?_
      refine WX.seqN ?_
      refine WC.seq ?_
      refine WC.seq ?_
      refine WC.region ?_
      refine WL.op (d := 30) (.slice A12 ((splitL 47 ((Lib.cut l [58]).2.1)).length) c13) (k := ?_)
      refine WL.op (d := 31) (.string ⟨((Lib.cut l [58]).1).toArray⟩) (k := ?_)
      refine WL.newF (d := 32) (T := 9) #[.string ⟨((Lib.cut l [58]).1).toArray⟩] (fun b => .slice (some ⟨b, 0, none⟩) 1 1) (k := fun b36 w37 g38 hb39 k40 => ?_)
      have z41 := Nat.le_trans K.size g38
      have n42 : b1 ≠ b36 := Nat.ne_of_lt (Nat.lt_of_lt_of_le (lt_of_heap hb4) g38)
      have n43 := OwAt.off_new ho14 g38
      have n44 : b28 ≠ b36 := Nat.ne_of_lt (Nat.lt_of_lt_of_le (lt_of_heap hb31) g38)
      replace hb4 := k40.heap hb4 id
      replace ho14 := ho14.adds k40
      replace hb31 := k40.heap hb31 id
      replace K := K.trans (k40.any _)
      refine WL.append (d := 33) (T := 46) (cl := strC) (xs := splitL 47 ((Lib.cut l [58]).2.1)) (ys := [(Lib.cut l [58]).1]) (c := 1) ekStr ho14 (SlAt.of_lit (ys := [(Lib.cut l [58]).1]) ekStr hb39 (by kernel_rfl)) (by simp; omega) (k := fun A45 c46 w47 ho48 k49 n50 => ?_)
      have ol51 := olink_step ol17 K n50
      have n52 := off_step n50 n35 (lt_of_heap hb31)
      replace hb4 := k49.heap hb4 (ho14.offT hb4 (by decide))
      replace hb31 := k49.heap hb31 n35
      replace K := K.trans' k49 (fun i hi e => absurd hi (Nat.not_lt.2 (ol17 i e)))
      clear ho14
      refine WL.op (d := 34) (.int .i64 ((splitL 47 ((Lib.cut l [58]).2.1) ++ [(Lib.cut l [58]).1]).length : Int)) (k := ?_)
      refine WL.op (d := 35) (.int .i64 0) (k := ?_)
      refine WL.nil ?_
      refine WX.seqN ?_
      refine WC.block ?_
      refine WC.rounds 5 ?_
      refine WC.seq ?_
      have l5_ : List.length (splitL 47 ((Lib.cut l [58]).2.1) ++ [(Lib.cut l [58]).1]) = 5 := by simp only [List.length_append, List.length_cons, List.length_nil]; omega
      refine WC.rw (t := 34) (v := .int .i64 5) (congrArg (Value.int .i64) (show (List.length (splitL 47 ((Lib.cut l [58]).2.1) ++ [(Lib.cut l [58]).1]) : Int) = 5 by omega)) (k := ?_)
      refine WC.region ?_
      refine WL.op (d := 36) (.bool true) (k := ?_)
      refine WL.nil ?_
      refine WX.seqN ?_
      refine WC.seq ?_
      refine WC.condT (k := ?_)
      refine WC.skip ?_
      refine WX.seqN ?_
      refine WC.seq ?_
      refine WC.block ?_
      refine WC.seq ?_
      refine WC.region ?_
      refine WL.op (d := 37) (.int .i64 0) (k := ?_)
      obtain ⟨b53, o54, r55, hr56, hA57, he58⟩ := SlAt.at (ho48.sl ekStr) (i := 0) (by omega) (by omega)
      refine WL.rw (t := 33) (v := .slice (some ⟨b53, o54, none⟩) ((splitL 47 ((Lib.cut l [58]).2.1) ++ [(Lib.cut l [58]).1]).length) c46) (congrArg (fun a => Value.slice a ((splitL 47 ((Lib.cut l [58]).2.1) ++ [(Lib.cut l [58]).1]).length) c46) hA57) (k := ?_)
      have tl59 := taskL_le (s := l) (List.mem_of_getElem? hr56)
      refine WL.idx (T := 46) (E := 9) (m := 1) (b := b53) (o := o54) (len := (splitL 47 ((Lib.cut l [58]).2.1) ++ [(Lib.cut l [58]).1]).length) (cap := c46) (i := 0) (kk := .i64) (d := 38) (by omega) (by omega) (k := ?_)
      refine WL.rw (t := 33) (v := .slice A45 ((splitL 47 ((Lib.cut l [58]).2.1) ++ [(Lib.cut l [58]).1]).length) c46) (congrArg (fun a => Value.slice a ((splitL 47 ((Lib.cut l [58]).2.1) ++ [(Lib.cut l [58]).1]).length) c46) (Eq.symm hA57)) (k := ?_)
      refine WL.load (v := .string ⟨(r55).toArray⟩) (he58.ld0 (T := 9)) (k := ?_)
      refine WL.op (d := 9) (.int .i64 0) (k := ?_)
      refine WL.op (d := 10) (.string ⟨(r55).toArray⟩) (k := ?_)
      refine WL.nil ?_
      refine WX.seqN ?_
      refine WC.seq ?_
      refine WC.region ?_
      refine WL.op (d := 41) (.string ⟨(r55).toArray⟩) (k := ?_)
      refine WL.callG (d := 42) (f := 24) (args := #[.string ⟨(r55).toArray⟩]) (lnNumber_c (l := r55) (by show List.length r55 ≤ _; first | omega | (simp; done) | (simp; omega)) w47) (k := fun e_ w61 h_ => ⟨.tuple #[.int .i64 ((numV r55 : Nat) : Int), .bool (decide (numP r55))], h_.1, ?_⟩)
      have k62 := h_.2; clear h_
      replace hb4 := k62.heap hb4 id
      replace ho48 := ho48.adds k62
      replace hb31 := k62.heap hb31 id
      replace he58 := he58.adds k62
      replace K := K.trans (k62.any _)
      have nv60 := numV_le r55
      refine WL.op (d := 40) (.tuple #[.int .i64 ((numV r55 : Nat) : Int), .bool (decide (numP r55))]) (k := ?_)
      refine WL.op (d := 43) (.int .i64 ((numV r55 : Nat) : Int)) (k := ?_)
      refine WL.op (d := 44) (.bool (decide (numP r55))) (k := ?_)
      refine WL.op (d := 11) (.int .i64 ((numV r55 : Nat) : Int)) (k := ?_)
      refine WL.op (d := 12) (.bool (decide (numP r55))) (k := ?_)
      refine WL.nil ?_
      refine WX.seqN ?_
      refine WC.seq ?_
      refine WC.seq ?_
      refine WC.region ?_
      refine WL.op (d := 45) (.bool (decide (numP r55))) (k := ?_)
      refine WL.op (d := 46) (.bool (!(decide (numP r55)))) (k := ?_)
      refine WL.nil ?_
      refine WX.seqN ?_
      refine WC.cond (b := !(decide (numP r55))) (ht := fun h63 => ?_) (hf := fun h63 => ?_)
      · have h64 : (decide (numP r55)) = false := Bool.not_inj (y := false) h63
        have ph64 := of_decide_eq_false h64
        refine WC.seq ?_
        refine WC.region ?_
        refine WL.op (d := 47) (.agg #[.int .i64 0, .int .i64 0, .int .i64 0, .int .i64 0, .int .i64 0]) (k := ?_)
        refine WL.store (v := .agg #[.int .i64 0, .int .i64 0, .int .i64 0, .int .i64 0, .int .i64 0]) (i := 0) (cs' := #[.int .i64 0, .int .i64 0, .int .i64 0, .int .i64 0, .int .i64 0]) hb4 (k := fun w65 hb66 k67 => ?_)
        replace ho48 := ho48.keeps k67 (fun i hi e => (ho48.offT hb4 (by decide)) (e ▸ hi))
        replace hb31 := k67.heap hb31 (Ne.symm n34)
        replace K := K.trans' k67 (fun i hi e => absurd (e ▸ hi) (Nat.not_lt.2 z6))
        clear hb4
        refine WL.op (d := 3) (.bool false) (k := ?_)
        refine WL.nil ?_
        refine WX.seqN ?_
        refine WC.ret ?_
        refine WX.seqR ?_
        refine WX.blockR ?_
        refine WX.seqR ?_
        refine WX.seqR ?_
        refine WX.blockR ?_
        refine WX.seqR ?_
        refine WX.ret (rs := [.cell 2 31, .tmp 3]) [.agg #[.int .i64 0, .int .i64 0, .int .i64 0, .int .i64 0, .int .i64 0], .bool false] (.tuple #[.agg #[.int .i64 0, .int .i64 0, .int .i64 0, .int .i64 0, .int .i64 0], .bool false]) ⟨⟨_, (by kernel_rfl), ldN (T := 31) (i := 0) (m := 5) (l := [.int .i64 0, .int .i64 0, .int .i64 0, .int .i64 0, .int .i64 0]) hb66⟩, (by kernel_rfl), trivial⟩ (k := ?_)
        obtain ⟨e1_, e2_⟩ := task_no (s := l) (task_nonum (i := 0) hr56 ph64)
        exact ⟨by rw [e1_, e2_], K⟩
      · have h68 : (decide (numP r55)) = true := Bool.not_inj (y := true) h63
        have ph68 := of_decide_eq_true h68
        refine WC.skip ?_
        refine WX.seqN ?_
        refine WC.region ?_
        refine WL.op (d := 48) (.int .i64 0) (k := ?_)
        refine WL.op (d := 49) (.int .i64 ((numV r55 : Nat) : Int)) (k := ?_)
        refine WL.op (d := 50) (.pointer (some ⟨b28, 0, none⟩)) (k := ?_)
        refine WL.store (v := .int .i64 ((numV r55 : Nat) : Int)) (i := 0) (cs' := #[.int .i64 ((numV r55 : Nat) : Int), .int .i64 0, .int .i64 0, .int .i64 0, .int .i64 0]) hb31 (k := fun w69 hb70 k71 => ?_)
        replace hb4 := k71.heap hb4 n34
        replace ho48 := ho48.keeps k71 (fun i hi e => (n52) (e ▸ hi))
        replace K := K.trans' k71 (fun i hi e => absurd (e ▸ hi) (Nat.not_lt.2 z33))
        clear hb31
        refine WL.nil ?_
        refine WX.blockN ?_
        refine WX.seqN ?_
        refine WC.region ?_
        refine WL.op (d := 51) (.int .i64 1) (k := ?_)
        refine WL.op (d := 35) (.int .i64 1) (k := ?_)
        refine WL.nil ?_
        refine WX.more ?_
        refine WC.seq ?_
        refine WC.region ?_
        refine WL.op (d := 36) (.bool true) (k := ?_)
        refine WL.nil ?_
        refine WX.seqN ?_
        refine WC.seq ?_
        refine WC.condT (k := ?_)
        refine WC.skip ?_
        refine WX.seqN ?_
        refine WC.seq ?_
        refine WC.block ?_
        refine WC.seq ?_
        refine WC.region ?_
        refine WL.op (d := 37) (.int .i64 1) (k := ?_)
        obtain ⟨b72, o73, r74, hr75, hA76, he77⟩ := SlAt.at (ho48.sl ekStr) (i := 1) (by omega) (by omega)
        refine WL.rw (t := 33) (v := .slice (some ⟨b72, o73, none⟩) ((splitL 47 ((Lib.cut l [58]).2.1) ++ [(Lib.cut l [58]).1]).length) c46) (congrArg (fun a => Value.slice a ((splitL 47 ((Lib.cut l [58]).2.1) ++ [(Lib.cut l [58]).1]).length) c46) hA76) (k := ?_)
        have tl78 := taskL_le (s := l) (List.mem_of_getElem? hr75)
        refine WL.idx (T := 46) (E := 9) (m := 1) (b := b72) (o := o73) (len := (splitL 47 ((Lib.cut l [58]).2.1) ++ [(Lib.cut l [58]).1]).length) (cap := c46) (i := 1) (kk := .i64) (d := 38) (by omega) (by omega) (k := ?_)
        refine WL.rw (t := 33) (v := .slice A45 ((splitL 47 ((Lib.cut l [58]).2.1) ++ [(Lib.cut l [58]).1]).length) c46) (congrArg (fun a => Value.slice a ((splitL 47 ((Lib.cut l [58]).2.1) ++ [(Lib.cut l [58]).1]).length) c46) (Eq.symm hA76)) (k := ?_)
        refine WL.load (v := .string ⟨(r74).toArray⟩) (he77.ld0 (T := 9)) (k := ?_)
        refine WL.op (d := 9) (.int .i64 1) (k := ?_)
        refine WL.op (d := 10) (.string ⟨(r74).toArray⟩) (k := ?_)
        refine WL.nil ?_
        refine WX.seqN ?_
        refine WC.seq ?_
        refine WC.region ?_
        refine WL.op (d := 41) (.string ⟨(r74).toArray⟩) (k := ?_)
        refine WL.callG (d := 42) (f := 24) (args := #[.string ⟨(r74).toArray⟩]) (lnNumber_c (l := r74) (by show List.length r74 ≤ _; first | omega | (simp; done) | (simp; omega)) w69) (k := fun e_ w80 h_ => ⟨.tuple #[.int .i64 ((numV r74 : Nat) : Int), .bool (decide (numP r74))], h_.1, ?_⟩)
        have k81 := h_.2; clear h_
        replace hb4 := k81.heap hb4 id
        replace ho48 := ho48.adds k81
        replace hb70 := k81.heap hb70 id
        replace he77 := he77.adds k81
        replace K := K.trans (k81.any _)
        have nv79 := numV_le r74
        refine WL.op (d := 40) (.tuple #[.int .i64 ((numV r74 : Nat) : Int), .bool (decide (numP r74))]) (k := ?_)
        refine WL.op (d := 43) (.int .i64 ((numV r74 : Nat) : Int)) (k := ?_)
        refine WL.op (d := 44) (.bool (decide (numP r74))) (k := ?_)
        refine WL.op (d := 11) (.int .i64 ((numV r74 : Nat) : Int)) (k := ?_)
        refine WL.op (d := 12) (.bool (decide (numP r74))) (k := ?_)
        refine WL.nil ?_
        refine WX.seqN ?_
        refine WC.seq ?_
        refine WC.seq ?_
        refine WC.region ?_
        refine WL.op (d := 45) (.bool (decide (numP r74))) (k := ?_)
        refine WL.op (d := 46) (.bool (!(decide (numP r74)))) (k := ?_)
        refine WL.nil ?_
        refine WX.seqN ?_
        refine WC.cond (b := !(decide (numP r74))) (ht := fun h82 => ?_) (hf := fun h82 => ?_)
        · have h83 : (decide (numP r74)) = false := Bool.not_inj (y := false) h82
          have ph83 := of_decide_eq_false h83
          refine WC.seq ?_
          refine WC.region ?_
          refine WL.op (d := 47) (.agg #[.int .i64 0, .int .i64 0, .int .i64 0, .int .i64 0, .int .i64 0]) (k := ?_)
          refine WL.store (v := .agg #[.int .i64 0, .int .i64 0, .int .i64 0, .int .i64 0, .int .i64 0]) (i := 0) (cs' := #[.int .i64 0, .int .i64 0, .int .i64 0, .int .i64 0, .int .i64 0]) hb4 (k := fun w84 hb85 k86 => ?_)
          replace ho48 := ho48.keeps k86 (fun i hi e => (ho48.offT hb4 (by decide)) (e ▸ hi))
          replace hb70 := k86.heap hb70 (Ne.symm n34)
          replace K := K.trans' k86 (fun i hi e => absurd (e ▸ hi) (Nat.not_lt.2 z6))
          clear hb4
          refine WL.op (d := 3) (.bool false) (k := ?_)
          refine WL.nil ?_
          refine WX.seqN ?_
          refine WC.ret ?_
          refine WX.seqR ?_
          refine WX.blockR ?_
          refine WX.seqR ?_
          refine WX.seqR ?_
          refine WX.blockR ?_
          refine WX.seqR ?_
          refine WX.ret (rs := [.cell 2 31, .tmp 3]) [.agg #[.int .i64 0, .int .i64 0, .int .i64 0, .int .i64 0, .int .i64 0], .bool false] (.tuple #[.agg #[.int .i64 0, .int .i64 0, .int .i64 0, .int .i64 0, .int .i64 0], .bool false]) ⟨⟨_, (by kernel_rfl), ldN (T := 31) (i := 0) (m := 5) (l := [.int .i64 0, .int .i64 0, .int .i64 0, .int .i64 0, .int .i64 0]) hb85⟩, (by kernel_rfl), trivial⟩ (k := ?_)
          obtain ⟨e1_, e2_⟩ := task_no (s := l) (task_nonum (i := 1) hr75 ph83)
          exact ⟨by rw [e1_, e2_], K⟩
        · have h87 : (decide (numP r74)) = true := Bool.not_inj (y := true) h82
          have ph87 := of_decide_eq_true h87
          refine WC.skip ?_
          refine WX.seqN ?_
          refine WC.region ?_
          refine WL.op (d := 48) (.int .i64 1) (k := ?_)
          refine WL.op (d := 49) (.int .i64 ((numV r74 : Nat) : Int)) (k := ?_)
          refine WL.op (d := 50) (.pointer (some ⟨b28, 1, none⟩)) (k := ?_)
          refine WL.store (v := .int .i64 ((numV r74 : Nat) : Int)) (i := 1) (cs' := #[.int .i64 ((numV r55 : Nat) : Int), .int .i64 ((numV r74 : Nat) : Int), .int .i64 0, .int .i64 0, .int .i64 0]) hb70 (k := fun w88 hb89 k90 => ?_)
          replace hb4 := k90.heap hb4 n34
          replace ho48 := ho48.keeps k90 (fun i hi e => (n52) (e ▸ hi))
          replace K := K.trans' k90 (fun i hi e => absurd (e ▸ hi) (Nat.not_lt.2 z33))
          clear hb70
          refine WL.nil ?_
          refine WX.blockN ?_
          refine WX.seqN ?_
          refine WC.region ?_
          refine WL.op (d := 51) (.int .i64 2) (k := ?_)
          refine WL.op (d := 35) (.int .i64 2) (k := ?_)
          refine WL.nil ?_
          refine WX.more ?_
          refine WC.seq ?_
          refine WC.region ?_
          refine WL.op (d := 36) (.bool true) (k := ?_)
          refine WL.nil ?_
          refine WX.seqN ?_
          refine WC.seq ?_
          refine WC.condT (k := ?_)
          refine WC.skip ?_
          refine WX.seqN ?_
          refine WC.seq ?_
          refine WC.block ?_
          refine WC.seq ?_
          refine WC.region ?_
          refine WL.op (d := 37) (.int .i64 2) (k := ?_)
          obtain ⟨b91, o92, r93, hr94, hA95, he96⟩ := SlAt.at (ho48.sl ekStr) (i := 2) (by omega) (by omega)
          refine WL.rw (t := 33) (v := .slice (some ⟨b91, o92, none⟩) ((splitL 47 ((Lib.cut l [58]).2.1) ++ [(Lib.cut l [58]).1]).length) c46) (congrArg (fun a => Value.slice a ((splitL 47 ((Lib.cut l [58]).2.1) ++ [(Lib.cut l [58]).1]).length) c46) hA95) (k := ?_)
          have tl97 := taskL_le (s := l) (List.mem_of_getElem? hr94)
          refine WL.idx (T := 46) (E := 9) (m := 1) (b := b91) (o := o92) (len := (splitL 47 ((Lib.cut l [58]).2.1) ++ [(Lib.cut l [58]).1]).length) (cap := c46) (i := 2) (kk := .i64) (d := 38) (by omega) (by omega) (k := ?_)
          refine WL.rw (t := 33) (v := .slice A45 ((splitL 47 ((Lib.cut l [58]).2.1) ++ [(Lib.cut l [58]).1]).length) c46) (congrArg (fun a => Value.slice a ((splitL 47 ((Lib.cut l [58]).2.1) ++ [(Lib.cut l [58]).1]).length) c46) (Eq.symm hA95)) (k := ?_)
          refine WL.load (v := .string ⟨(r93).toArray⟩) (he96.ld0 (T := 9)) (k := ?_)
          refine WL.op (d := 9) (.int .i64 2) (k := ?_)
          refine WL.op (d := 10) (.string ⟨(r93).toArray⟩) (k := ?_)
          refine WL.nil ?_
          refine WX.seqN ?_
          refine WC.seq ?_
          refine WC.region ?_
          refine WL.op (d := 41) (.string ⟨(r93).toArray⟩) (k := ?_)
          refine WL.callG (d := 42) (f := 24) (args := #[.string ⟨(r93).toArray⟩]) (lnNumber_c (l := r93) (by show List.length r93 ≤ _; first | omega | (simp; done) | (simp; omega)) w88) (k := fun e_ w99 h_ => ⟨.tuple #[.int .i64 ((numV r93 : Nat) : Int), .bool (decide (numP r93))], h_.1, ?_⟩)
          have k100 := h_.2; clear h_
          replace hb4 := k100.heap hb4 id
          replace ho48 := ho48.adds k100
          replace hb89 := k100.heap hb89 id
          replace he96 := he96.adds k100
          replace K := K.trans (k100.any _)
          have nv98 := numV_le r93
          refine WL.op (d := 40) (.tuple #[.int .i64 ((numV r93 : Nat) : Int), .bool (decide (numP r93))]) (k := ?_)
          refine WL.op (d := 43) (.int .i64 ((numV r93 : Nat) : Int)) (k := ?_)
          refine WL.op (d := 44) (.bool (decide (numP r93))) (k := ?_)
          refine WL.op (d := 11) (.int .i64 ((numV r93 : Nat) : Int)) (k := ?_)
          refine WL.op (d := 12) (.bool (decide (numP r93))) (k := ?_)
          refine WL.nil ?_
          refine WX.seqN ?_
          refine WC.seq ?_
          refine WC.seq ?_
          refine WC.region ?_
          refine WL.op (d := 45) (.bool (decide (numP r93))) (k := ?_)
          refine WL.op (d := 46) (.bool (!(decide (numP r93)))) (k := ?_)
          refine WL.nil ?_
          refine WX.seqN ?_
          refine WC.cond (b := !(decide (numP r93))) (ht := fun h101 => ?_) (hf := fun h101 => ?_)
          · have h102 : (decide (numP r93)) = false := Bool.not_inj (y := false) h101
            have ph102 := of_decide_eq_false h102
            refine WC.seq ?_
            refine WC.region ?_
            refine WL.op (d := 47) (.agg #[.int .i64 0, .int .i64 0, .int .i64 0, .int .i64 0, .int .i64 0]) (k := ?_)
            refine WL.store (v := .agg #[.int .i64 0, .int .i64 0, .int .i64 0, .int .i64 0, .int .i64 0]) (i := 0) (cs' := #[.int .i64 0, .int .i64 0, .int .i64 0, .int .i64 0, .int .i64 0]) hb4 (k := fun w103 hb104 k105 => ?_)
            replace ho48 := ho48.keeps k105 (fun i hi e => (ho48.offT hb4 (by decide)) (e ▸ hi))
            replace hb89 := k105.heap hb89 (Ne.symm n34)
            replace K := K.trans' k105 (fun i hi e => absurd (e ▸ hi) (Nat.not_lt.2 z6))
            clear hb4
            refine WL.op (d := 3) (.bool false) (k := ?_)
            refine WL.nil ?_
            refine WX.seqN ?_
            refine WC.ret ?_
            refine WX.seqR ?_
            refine WX.blockR ?_
            refine WX.seqR ?_
            refine WX.seqR ?_
            refine WX.blockR ?_
            refine WX.seqR ?_
            refine WX.ret (rs := [.cell 2 31, .tmp 3]) [.agg #[.int .i64 0, .int .i64 0, .int .i64 0, .int .i64 0, .int .i64 0], .bool false] (.tuple #[.agg #[.int .i64 0, .int .i64 0, .int .i64 0, .int .i64 0, .int .i64 0], .bool false]) ⟨⟨_, (by kernel_rfl), ldN (T := 31) (i := 0) (m := 5) (l := [.int .i64 0, .int .i64 0, .int .i64 0, .int .i64 0, .int .i64 0]) hb104⟩, (by kernel_rfl), trivial⟩ (k := ?_)
            obtain ⟨e1_, e2_⟩ := task_no (s := l) (task_nonum (i := 2) hr94 ph102)
            exact ⟨by rw [e1_, e2_], K⟩
          · have h106 : (decide (numP r93)) = true := Bool.not_inj (y := true) h101
            have ph106 := of_decide_eq_true h106
            refine WC.skip ?_
            refine WX.seqN ?_
            refine WC.region ?_
            refine WL.op (d := 48) (.int .i64 2) (k := ?_)
            refine WL.op (d := 49) (.int .i64 ((numV r93 : Nat) : Int)) (k := ?_)
            refine WL.op (d := 50) (.pointer (some ⟨b28, 2, none⟩)) (k := ?_)
            refine WL.store (v := .int .i64 ((numV r93 : Nat) : Int)) (i := 2) (cs' := #[.int .i64 ((numV r55 : Nat) : Int), .int .i64 ((numV r74 : Nat) : Int), .int .i64 ((numV r93 : Nat) : Int), .int .i64 0, .int .i64 0]) hb89 (k := fun w107 hb108 k109 => ?_)
            replace hb4 := k109.heap hb4 n34
            replace ho48 := ho48.keeps k109 (fun i hi e => (n52) (e ▸ hi))
            replace K := K.trans' k109 (fun i hi e => absurd (e ▸ hi) (Nat.not_lt.2 z33))
            clear hb89
            refine WL.nil ?_
            refine WX.blockN ?_
            refine WX.seqN ?_
            refine WC.region ?_
            refine WL.op (d := 51) (.int .i64 3) (k := ?_)
            refine WL.op (d := 35) (.int .i64 3) (k := ?_)
            refine WL.nil ?_
            refine WX.more ?_
            refine WC.seq ?_
            refine WC.region ?_
            refine WL.op (d := 36) (.bool true) (k := ?_)
            refine WL.nil ?_
            refine WX.seqN ?_
            refine WC.seq ?_
            refine WC.condT (k := ?_)
            refine WC.skip ?_
            refine WX.seqN ?_
            refine WC.seq ?_
            refine WC.block ?_
            refine WC.seq ?_
            refine WC.region ?_
            refine WL.op (d := 37) (.int .i64 3) (k := ?_)
            obtain ⟨b110, o111, r112, hr113, hA114, he115⟩ := SlAt.at (ho48.sl ekStr) (i := 3) (by omega) (by omega)
            refine WL.rw (t := 33) (v := .slice (some ⟨b110, o111, none⟩) ((splitL 47 ((Lib.cut l [58]).2.1) ++ [(Lib.cut l [58]).1]).length) c46) (congrArg (fun a => Value.slice a ((splitL 47 ((Lib.cut l [58]).2.1) ++ [(Lib.cut l [58]).1]).length) c46) hA114) (k := ?_)
            have tl116 := taskL_le (s := l) (List.mem_of_getElem? hr113)
            refine WL.idx (T := 46) (E := 9) (m := 1) (b := b110) (o := o111) (len := (splitL 47 ((Lib.cut l [58]).2.1) ++ [(Lib.cut l [58]).1]).length) (cap := c46) (i := 3) (kk := .i64) (d := 38) (by omega) (by omega) (k := ?_)
            refine WL.rw (t := 33) (v := .slice A45 ((splitL 47 ((Lib.cut l [58]).2.1) ++ [(Lib.cut l [58]).1]).length) c46) (congrArg (fun a => Value.slice a ((splitL 47 ((Lib.cut l [58]).2.1) ++ [(Lib.cut l [58]).1]).length) c46) (Eq.symm hA114)) (k := ?_)
            refine WL.load (v := .string ⟨(r112).toArray⟩) (he115.ld0 (T := 9)) (k := ?_)
            refine WL.op (d := 9) (.int .i64 3) (k := ?_)
            refine WL.op (d := 10) (.string ⟨(r112).toArray⟩) (k := ?_)
            refine WL.nil ?_
            refine WX.seqN ?_
            refine WC.seq ?_
            refine WC.region ?_
            refine WL.op (d := 41) (.string ⟨(r112).toArray⟩) (k := ?_)
            refine WL.callG (d := 42) (f := 24) (args := #[.string ⟨(r112).toArray⟩]) (lnNumber_c (l := r112) (by show List.length r112 ≤ _; first | omega | (simp; done) | (simp; omega)) w107) (k := fun e_ w118 h_ => ⟨.tuple #[.int .i64 ((numV r112 : Nat) : Int), .bool (decide (numP r112))], h_.1, ?_⟩)
            have k119 := h_.2; clear h_
            replace hb4 := k119.heap hb4 id
            replace ho48 := ho48.adds k119
            replace hb108 := k119.heap hb108 id
            replace he115 := he115.adds k119
            replace K := K.trans (k119.any _)
            have nv117 := numV_le r112
            refine WL.op (d := 40) (.tuple #[.int .i64 ((numV r112 : Nat) : Int), .bool (decide (numP r112))]) (k := ?_)
            refine WL.op (d := 43) (.int .i64 ((numV r112 : Nat) : Int)) (k := ?_)
            refine WL.op (d := 44) (.bool (decide (numP r112))) (k := ?_)
            refine WL.op (d := 11) (.int .i64 ((numV r112 : Nat) : Int)) (k := ?_)
            refine WL.op (d := 12) (.bool (decide (numP r112))) (k := ?_)
            refine WL.nil ?_
            refine WX.seqN ?_
            refine WC.seq ?_
            refine WC.seq ?_
            refine WC.region ?_
            refine WL.op (d := 45) (.bool (decide (numP r112))) (k := ?_)
            refine WL.op (d := 46) (.bool (!(decide (numP r112)))) (k := ?_)
            refine WL.nil ?_
            refine WX.seqN ?_
            refine WC.cond (b := !(decide (numP r112))) (ht := fun h120 => ?_) (hf := fun h120 => ?_)
            · have h121 : (decide (numP r112)) = false := Bool.not_inj (y := false) h120
              have ph121 := of_decide_eq_false h121
              refine WC.seq ?_
              refine WC.region ?_
              refine WL.op (d := 47) (.agg #[.int .i64 0, .int .i64 0, .int .i64 0, .int .i64 0, .int .i64 0]) (k := ?_)
              refine WL.store (v := .agg #[.int .i64 0, .int .i64 0, .int .i64 0, .int .i64 0, .int .i64 0]) (i := 0) (cs' := #[.int .i64 0, .int .i64 0, .int .i64 0, .int .i64 0, .int .i64 0]) hb4 (k := fun w122 hb123 k124 => ?_)
              replace ho48 := ho48.keeps k124 (fun i hi e => (ho48.offT hb4 (by decide)) (e ▸ hi))
              replace hb108 := k124.heap hb108 (Ne.symm n34)
              replace K := K.trans' k124 (fun i hi e => absurd (e ▸ hi) (Nat.not_lt.2 z6))
              clear hb4
              refine WL.op (d := 3) (.bool false) (k := ?_)
              refine WL.nil ?_
              refine WX.seqN ?_
              refine WC.ret ?_
              refine WX.seqR ?_
              refine WX.blockR ?_
              refine WX.seqR ?_
              refine WX.seqR ?_
              refine WX.blockR ?_
              refine WX.seqR ?_
              refine WX.ret (rs := [.cell 2 31, .tmp 3]) [.agg #[.int .i64 0, .int .i64 0, .int .i64 0, .int .i64 0, .int .i64 0], .bool false] (.tuple #[.agg #[.int .i64 0, .int .i64 0, .int .i64 0, .int .i64 0, .int .i64 0], .bool false]) ⟨⟨_, (by kernel_rfl), ldN (T := 31) (i := 0) (m := 5) (l := [.int .i64 0, .int .i64 0, .int .i64 0, .int .i64 0, .int .i64 0]) hb123⟩, (by kernel_rfl), trivial⟩ (k := ?_)
              obtain ⟨e1_, e2_⟩ := task_no (s := l) (task_nonum (i := 3) hr113 ph121)
              exact ⟨by rw [e1_, e2_], K⟩
            · have h125 : (decide (numP r112)) = true := Bool.not_inj (y := true) h120
              have ph125 := of_decide_eq_true h125
              refine WC.skip ?_
              refine WX.seqN ?_
              refine WC.region ?_
              refine WL.op (d := 48) (.int .i64 3) (k := ?_)
              refine WL.op (d := 49) (.int .i64 ((numV r112 : Nat) : Int)) (k := ?_)
              refine WL.op (d := 50) (.pointer (some ⟨b28, 3, none⟩)) (k := ?_)
              refine WL.store (v := .int .i64 ((numV r112 : Nat) : Int)) (i := 3) (cs' := #[.int .i64 ((numV r55 : Nat) : Int), .int .i64 ((numV r74 : Nat) : Int), .int .i64 ((numV r93 : Nat) : Int), .int .i64 ((numV r112 : Nat) : Int), .int .i64 0]) hb108 (k := fun w126 hb127 k128 => ?_)
              replace hb4 := k128.heap hb4 n34
              replace ho48 := ho48.keeps k128 (fun i hi e => (n52) (e ▸ hi))
              replace K := K.trans' k128 (fun i hi e => absurd (e ▸ hi) (Nat.not_lt.2 z33))
              clear hb108
              refine WL.nil ?_
              refine WX.blockN ?_
              refine WX.seqN ?_
              refine WC.region ?_
              refine WL.op (d := 51) (.int .i64 4) (k := ?_)
              refine WL.op (d := 35) (.int .i64 4) (k := ?_)
              refine WL.nil ?_
              refine WX.more ?_
              refine WC.seq ?_
              refine WC.region ?_
              refine WL.op (d := 36) (.bool true) (k := ?_)
              refine WL.nil ?_
              refine WX.seqN ?_
              refine WC.seq ?_
              refine WC.condT (k := ?_)
              refine WC.skip ?_
              refine WX.seqN ?_
              refine WC.seq ?_
              refine WC.block ?_
              refine WC.seq ?_
              refine WC.region ?_
              refine WL.op (d := 37) (.int .i64 4) (k := ?_)
              obtain ⟨b129, o130, r131, hr132, hA133, he134⟩ := SlAt.at (ho48.sl ekStr) (i := 4) (by omega) (by omega)
              refine WL.rw (t := 33) (v := .slice (some ⟨b129, o130, none⟩) ((splitL 47 ((Lib.cut l [58]).2.1) ++ [(Lib.cut l [58]).1]).length) c46) (congrArg (fun a => Value.slice a ((splitL 47 ((Lib.cut l [58]).2.1) ++ [(Lib.cut l [58]).1]).length) c46) hA133) (k := ?_)
              have tl135 := taskL_le (s := l) (List.mem_of_getElem? hr132)
              refine WL.idx (T := 46) (E := 9) (m := 1) (b := b129) (o := o130) (len := (splitL 47 ((Lib.cut l [58]).2.1) ++ [(Lib.cut l [58]).1]).length) (cap := c46) (i := 4) (kk := .i64) (d := 38) (by omega) (by omega) (k := ?_)
              refine WL.rw (t := 33) (v := .slice A45 ((splitL 47 ((Lib.cut l [58]).2.1) ++ [(Lib.cut l [58]).1]).length) c46) (congrArg (fun a => Value.slice a ((splitL 47 ((Lib.cut l [58]).2.1) ++ [(Lib.cut l [58]).1]).length) c46) (Eq.symm hA133)) (k := ?_)
              refine WL.load (v := .string ⟨(r131).toArray⟩) (he134.ld0 (T := 9)) (k := ?_)
              refine WL.op (d := 9) (.int .i64 4) (k := ?_)
              refine WL.op (d := 10) (.string ⟨(r131).toArray⟩) (k := ?_)
              refine WL.nil ?_
              refine WX.seqN ?_
              refine WC.seq ?_
              refine WC.region ?_
              refine WL.op (d := 41) (.string ⟨(r131).toArray⟩) (k := ?_)
              refine WL.callG (d := 42) (f := 24) (args := #[.string ⟨(r131).toArray⟩]) (lnNumber_c (l := r131) (by show List.length r131 ≤ _; first | omega | (simp; done) | (simp; omega)) w126) (k := fun e_ w137 h_ => ⟨.tuple #[.int .i64 ((numV r131 : Nat) : Int), .bool (decide (numP r131))], h_.1, ?_⟩)
              have k138 := h_.2; clear h_
              replace hb4 := k138.heap hb4 id
              replace ho48 := ho48.adds k138
              replace hb127 := k138.heap hb127 id
              replace he134 := he134.adds k138
              replace K := K.trans (k138.any _)
              have nv136 := numV_le r131
              refine WL.op (d := 40) (.tuple #[.int .i64 ((numV r131 : Nat) : Int), .bool (decide (numP r131))]) (k := ?_)
              refine WL.op (d := 43) (.int .i64 ((numV r131 : Nat) : Int)) (k := ?_)
              refine WL.op (d := 44) (.bool (decide (numP r131))) (k := ?_)
              refine WL.op (d := 11) (.int .i64 ((numV r131 : Nat) : Int)) (k := ?_)
              refine WL.op (d := 12) (.bool (decide (numP r131))) (k := ?_)
              refine WL.nil ?_
              refine WX.seqN ?_
              refine WC.seq ?_
              refine WC.seq ?_
              refine WC.region ?_
              refine WL.op (d := 45) (.bool (decide (numP r131))) (k := ?_)
              refine WL.op (d := 46) (.bool (!(decide (numP r131)))) (k := ?_)
              refine WL.nil ?_
              refine WX.seqN ?_
              refine WC.cond (b := !(decide (numP r131))) (ht := fun h139 => ?_) (hf := fun h139 => ?_)
              · have h140 : (decide (numP r131)) = false := Bool.not_inj (y := false) h139
                have ph140 := of_decide_eq_false h140
                refine WC.seq ?_
                refine WC.region ?_
                refine WL.op (d := 47) (.agg #[.int .i64 0, .int .i64 0, .int .i64 0, .int .i64 0, .int .i64 0]) (k := ?_)
                refine WL.store (v := .agg #[.int .i64 0, .int .i64 0, .int .i64 0, .int .i64 0, .int .i64 0]) (i := 0) (cs' := #[.int .i64 0, .int .i64 0, .int .i64 0, .int .i64 0, .int .i64 0]) hb4 (k := fun w141 hb142 k143 => ?_)
                replace ho48 := ho48.keeps k143 (fun i hi e => (ho48.offT hb4 (by decide)) (e ▸ hi))
                replace hb127 := k143.heap hb127 (Ne.symm n34)
                replace K := K.trans' k143 (fun i hi e => absurd (e ▸ hi) (Nat.not_lt.2 z6))
                clear hb4
                refine WL.op (d := 3) (.bool false) (k := ?_)
                refine WL.nil ?_
                refine WX.seqN ?_
                refine WC.ret ?_
                refine WX.seqR ?_
                refine WX.blockR ?_
                refine WX.seqR ?_
                refine WX.seqR ?_
                refine WX.blockR ?_
                refine WX.seqR ?_
                refine WX.ret (rs := [.cell 2 31, .tmp 3]) [.agg #[.int .i64 0, .int .i64 0, .int .i64 0, .int .i64 0, .int .i64 0], .bool false] (.tuple #[.agg #[.int .i64 0, .int .i64 0, .int .i64 0, .int .i64 0, .int .i64 0], .bool false]) ⟨⟨_, (by kernel_rfl), ldN (T := 31) (i := 0) (m := 5) (l := [.int .i64 0, .int .i64 0, .int .i64 0, .int .i64 0, .int .i64 0]) hb142⟩, (by kernel_rfl), trivial⟩ (k := ?_)
                obtain ⟨e1_, e2_⟩ := task_no (s := l) (task_nonum (i := 4) hr132 ph140)
                exact ⟨by rw [e1_, e2_], K⟩
              · have h144 : (decide (numP r131)) = true := Bool.not_inj (y := true) h139
                have ph144 := of_decide_eq_true h144
                refine WC.skip ?_
                refine WX.seqN ?_
                refine WC.region ?_
                refine WL.op (d := 48) (.int .i64 4) (k := ?_)
                refine WL.op (d := 49) (.int .i64 ((numV r131 : Nat) : Int)) (k := ?_)
                refine WL.op (d := 50) (.pointer (some ⟨b28, 4, none⟩)) (k := ?_)
                refine WL.store (v := .int .i64 ((numV r131 : Nat) : Int)) (i := 4) (cs' := #[.int .i64 ((numV r55 : Nat) : Int), .int .i64 ((numV r74 : Nat) : Int), .int .i64 ((numV r93 : Nat) : Int), .int .i64 ((numV r112 : Nat) : Int), .int .i64 ((numV r131 : Nat) : Int)]) hb127 (k := fun w145 hb146 k147 => ?_)
                replace hb4 := k147.heap hb4 n34
                replace ho48 := ho48.keeps k147 (fun i hi e => (n52) (e ▸ hi))
                replace K := K.trans' k147 (fun i hi e => absurd (e ▸ hi) (Nat.not_lt.2 z33))
                clear hb127
                refine WL.nil ?_
                refine WX.blockN ?_
                refine WX.seqN ?_
                refine WC.region ?_
                refine WL.op (d := 51) (.int .i64 5) (k := ?_)
                refine WL.op (d := 35) (.int .i64 5) (k := ?_)
                refine WL.nil ?_
                refine WX.more ?_
                refine WC.seq ?_
                refine WC.region ?_
                refine WL.op (d := 36) (.bool false) (k := ?_)
                refine WL.nil ?_
                refine WX.seqN ?_
                refine WC.seq ?_
                refine WC.condF (k := ?_)
                refine WC.exit ?_
                refine WX.seqE ?_
                refine WX.seqE ?_
                refine WX.blockE ?_
                refine WX.seqN ?_
                refine WC.seq ?_
                refine WC.region ?_
                refine WL.op (d := 52) (.pointer (some ⟨b28, 4, none⟩)) (k := ?_)
                refine WL.load (v := .int .i64 ((numV r131 : Nat) : Int)) (ld1 (T := 2) (i := 4) hb146) (k := ?_)
                refine WL.op (d := 54) (.pointer (some ⟨b28, 0, none⟩)) (k := ?_)
                refine WL.load (v := .int .i64 ((numV r55 : Nat) : Int)) (ld1 (T := 2) (i := 0) hb146) (k := ?_)
                refine WL.op (d := 56) (.pointer (some ⟨b28, 1, none⟩)) (k := ?_)
                refine WL.load (v := .int .i64 ((numV r74 : Nat) : Int)) (ld1 (T := 2) (i := 1) hb146) (k := ?_)
                refine WL.op (d := 58) (.pointer (some ⟨b28, 2, none⟩)) (k := ?_)
                refine WL.load (v := .int .i64 ((numV r93 : Nat) : Int)) (ld1 (T := 2) (i := 2) hb146) (k := ?_)
                refine WL.op (d := 60) (.pointer (some ⟨b28, 3, none⟩)) (k := ?_)
                refine WL.load (v := .int .i64 ((numV r112 : Nat) : Int)) (ld1 (T := 2) (i := 3) hb146) (k := ?_)
                refine WL.op (d := 62) (.agg #[.int .i64 ((numV r131 : Nat) : Int), .int .i64 ((numV r55 : Nat) : Int), .int .i64 ((numV r74 : Nat) : Int), .int .i64 ((numV r93 : Nat) : Int), .int .i64 ((numV r112 : Nat) : Int)]) (k := ?_)
                refine WL.new (d := 13) (T := 31) #[.int .i64 0, .int .i64 0, .int .i64 0, .int .i64 0, .int .i64 0] (k := fun b148 w149 g150 hb151 k152 => ?_)
                have z153 := Nat.le_trans K.size g150
                have n154 : b1 ≠ b148 := Nat.ne_of_lt (Nat.lt_of_lt_of_le (lt_of_heap hb4) g150)
                have n155 := OwAt.off_new ho48 g150
                have n156 : b28 ≠ b148 := Nat.ne_of_lt (Nat.lt_of_lt_of_le (lt_of_heap hb146) g150)
                replace hb4 := k152.heap hb4 id
                replace ho48 := ho48.adds k152
                replace hb146 := k152.heap hb146 id
                replace K := K.trans (k152.any _)
                refine WL.store (v := .agg #[.int .i64 ((numV r131 : Nat) : Int), .int .i64 ((numV r55 : Nat) : Int), .int .i64 ((numV r74 : Nat) : Int), .int .i64 ((numV r93 : Nat) : Int), .int .i64 ((numV r112 : Nat) : Int)]) (i := 0) (cs' := #[.int .i64 ((numV r131 : Nat) : Int), .int .i64 ((numV r55 : Nat) : Int), .int .i64 ((numV r74 : Nat) : Int), .int .i64 ((numV r93 : Nat) : Int), .int .i64 ((numV r112 : Nat) : Int)]) hb151 (k := fun w157 hb158 k159 => ?_)
                replace hb4 := k159.heap hb4 n154
                replace ho48 := ho48.keeps k159 (fun i hi e => (n155) (e ▸ hi))
                replace hb146 := k159.heap hb146 n156
                replace K := K.trans' k159 (fun i hi e => absurd (e ▸ hi) (Nat.not_lt.2 z153))
                clear hb151
                refine WL.nil ?_
                refine WX.seqN ?_
                refine WC.seq ?_
                refine WC.seq ?_
                refine WC.region ?_
                refine WL.load (v := .agg #[.int .i64 ((numV r131 : Nat) : Int), .int .i64 ((numV r55 : Nat) : Int), .int .i64 ((numV r74 : Nat) : Int), .int .i64 ((numV r93 : Nat) : Int), .int .i64 ((numV r112 : Nat) : Int)]) (ldN (T := 31) (i := 0) (m := 5) (l := [.int .i64 ((numV r131 : Nat) : Int), .int .i64 ((numV r55 : Nat) : Int), .int .i64 ((numV r74 : Nat) : Int), .int .i64 ((numV r93 : Nat) : Int), .int .i64 ((numV r112 : Nat) : Int)]) hb158) (k := ?_)
                refine WL.callG (d := 64) (f := 19) (args := #[.agg #[.int .i64 ((numV r131 : Nat) : Int), .int .i64 ((numV r55 : Nat) : Int), .int .i64 ((numV r74 : Nat) : Int), .int .i64 ((numV r93 : Nat) : Int), .int .i64 ((numV r112 : Nat) : Int)]]) (pCheck_c (⟨((numV r131 : Nat) : Int), ((numV r55 : Nat) : Int), ((numV r74 : Nat) : Int), ((numV r93 : Nat) : Int), ((numV r112 : Nat) : Int)⟩ : GTask) w157) (k := fun e_ w160 h_ => ⟨.bool (decide (GTask.ok (⟨((numV r131 : Nat) : Int), ((numV r55 : Nat) : Int), ((numV r74 : Nat) : Int), ((numV r93 : Nat) : Int), ((numV r112 : Nat) : Int)⟩ : GTask))), h_.1, ?_⟩)
                have k161 := h_.2; clear h_
                replace hb4 := k161.heap hb4 id
                replace ho48 := ho48.adds k161
                replace hb146 := k161.heap hb146 id
                replace hb158 := k161.heap hb158 id
                replace K := K.trans (k161.any _)
                refine WL.op (d := 65) (.bool (!(decide (GTask.ok (⟨((numV r131 : Nat) : Int), ((numV r55 : Nat) : Int), ((numV r74 : Nat) : Int), ((numV r93 : Nat) : Int), ((numV r112 : Nat) : Int)⟩ : GTask))))) (k := ?_)
                refine WL.nil ?_
                refine WX.seqN ?_
                refine WC.cond (b := !(decide (GTask.ok (⟨((numV r131 : Nat) : Int), ((numV r55 : Nat) : Int), ((numV r74 : Nat) : Int), ((numV r93 : Nat) : Int), ((numV r112 : Nat) : Int)⟩ : GTask)))) (ht := fun h162 => ?_) (hf := fun h162 => ?_)
                · have h163 : (decide (GTask.ok (⟨((numV r131 : Nat) : Int), ((numV r55 : Nat) : Int), ((numV r74 : Nat) : Int), ((numV r93 : Nat) : Int), ((numV r112 : Nat) : Int)⟩ : GTask))) = false := Bool.not_inj (y := false) h162
                  have ph163 := of_decide_eq_false h163
                  refine WC.seq ?_
                  refine WC.region ?_
                  refine WL.op (d := 66) (.agg #[.int .i64 0, .int .i64 0, .int .i64 0, .int .i64 0, .int .i64 0]) (k := ?_)
                  refine WL.store (v := .agg #[.int .i64 0, .int .i64 0, .int .i64 0, .int .i64 0, .int .i64 0]) (i := 0) (cs' := #[.int .i64 0, .int .i64 0, .int .i64 0, .int .i64 0, .int .i64 0]) hb4 (k := fun w164 hb165 k166 => ?_)
                  replace ho48 := ho48.keeps k166 (fun i hi e => (ho48.offT hb4 (by decide)) (e ▸ hi))
                  replace hb146 := k166.heap hb146 (Ne.symm n34)
                  replace hb158 := k166.heap hb158 (Ne.symm n154)
                  replace K := K.trans' k166 (fun i hi e => absurd (e ▸ hi) (Nat.not_lt.2 z6))
                  clear hb4
                  refine WL.op (d := 3) (.bool false) (k := ?_)
                  refine WL.nil ?_
                  refine WX.seqN ?_
                  refine WC.ret ?_
                  refine WX.seqR ?_
                  refine WX.ret (rs := [.cell 2 31, .tmp 3]) [.agg #[.int .i64 0, .int .i64 0, .int .i64 0, .int .i64 0, .int .i64 0], .bool false] (.tuple #[.agg #[.int .i64 0, .int .i64 0, .int .i64 0, .int .i64 0, .int .i64 0], .bool false]) ⟨⟨_, (by kernel_rfl), ldN (T := 31) (i := 0) (m := 5) (l := [.int .i64 0, .int .i64 0, .int .i64 0, .int .i64 0, .int .i64 0]) hb165⟩, (by kernel_rfl), trivial⟩ (k := ?_)
                  have tt_ := task_T (s := l) hr56 hr75 hr94 hr113 hr132
                  obtain ⟨e1_, e2_⟩ := task_no (s := l) (fun k_ => ph163 (tt_ ▸ k_.2.2.2))
                  exact ⟨by rw [e1_, e2_], K⟩
                · have h167 : (decide (GTask.ok (⟨((numV r131 : Nat) : Int), ((numV r55 : Nat) : Int), ((numV r74 : Nat) : Int), ((numV r93 : Nat) : Int), ((numV r112 : Nat) : Int)⟩ : GTask))) = true := Bool.not_inj (y := true) h162
                  have ph167 := of_decide_eq_true h167
                  refine WC.skip ?_
                  refine WX.seqN ?_
                  refine WC.seq ?_
                  refine WC.region ?_
                  refine WL.load (v := .agg #[.int .i64 ((numV r131 : Nat) : Int), .int .i64 ((numV r55 : Nat) : Int), .int .i64 ((numV r74 : Nat) : Int), .int .i64 ((numV r93 : Nat) : Int), .int .i64 ((numV r112 : Nat) : Int)]) (ldN (T := 31) (i := 0) (m := 5) (l := [.int .i64 ((numV r131 : Nat) : Int), .int .i64 ((numV r55 : Nat) : Int), .int .i64 ((numV r74 : Nat) : Int), .int .i64 ((numV r93 : Nat) : Int), .int .i64 ((numV r112 : Nat) : Int)]) hb158) (k := ?_)
                  refine WL.store (v := .agg #[.int .i64 ((numV r131 : Nat) : Int), .int .i64 ((numV r55 : Nat) : Int), .int .i64 ((numV r74 : Nat) : Int), .int .i64 ((numV r93 : Nat) : Int), .int .i64 ((numV r112 : Nat) : Int)]) (i := 0) (cs' := #[.int .i64 ((numV r131 : Nat) : Int), .int .i64 ((numV r55 : Nat) : Int), .int .i64 ((numV r74 : Nat) : Int), .int .i64 ((numV r93 : Nat) : Int), .int .i64 ((numV r112 : Nat) : Int)]) hb4 (k := fun w168 hb169 k170 => ?_)
                  replace ho48 := ho48.keeps k170 (fun i hi e => (ho48.offT hb4 (by decide)) (e ▸ hi))
                  replace hb146 := k170.heap hb146 (Ne.symm n34)
                  replace hb158 := k170.heap hb158 (Ne.symm n154)
                  replace K := K.trans' k170 (fun i hi e => absurd (e ▸ hi) (Nat.not_lt.2 z6))
                  clear hb4
                  refine WL.op (d := 3) (.bool true) (k := ?_)
                  refine WL.nil ?_
                  refine WX.seqN ?_
                  refine WC.ret ?_
                  refine WX.ret (rs := [.cell 2 31, .tmp 3]) [.agg #[.int .i64 ((numV r131 : Nat) : Int), .int .i64 ((numV r55 : Nat) : Int), .int .i64 ((numV r74 : Nat) : Int), .int .i64 ((numV r93 : Nat) : Int), .int .i64 ((numV r112 : Nat) : Int)], .bool true] (.tuple #[.agg #[.int .i64 ((numV r131 : Nat) : Int), .int .i64 ((numV r55 : Nat) : Int), .int .i64 ((numV r74 : Nat) : Int), .int .i64 ((numV r93 : Nat) : Int), .int .i64 ((numV r112 : Nat) : Int)], .bool true]) ⟨⟨_, (by kernel_rfl), ldN (T := 31) (i := 0) (m := 5) (l := [.int .i64 ((numV r131 : Nat) : Int), .int .i64 ((numV r55 : Nat) : Int), .int .i64 ((numV r74 : Nat) : Int), .int .i64 ((numV r93 : Nat) : Int), .int .i64 ((numV r112 : Nat) : Int)]) hb169⟩, (by kernel_rfl), trivial⟩ (k := ?_)
                  have ta_ := task_all (s := l) l5_ hr56 hr75 hr94 hr113 hr132 ph68 ph87 ph106 ph125 ph144
                  have tt_ := task_T (s := l) hr56 hr75 hr94 hr113 hr132
                  obtain ⟨e1_, e2_⟩ := task_yes (s := l) h23 l5_ ta_ tt_ ph167
                  exact ⟨by rw [e1_, e2_], K⟩
end Go.Proofs.YtoeinhlmkpgjhaaDoor
namespace Go.Proofs.YtoeinhlmkpgjhaaDoor
open Go.RowKit
set_option linter.unusedVariables false
set_option linter.unusedSimpArgs false
theorem cutA_blk {A : Option Addr} {c a m : Nat} {p : Addr} (h : cutA A c a m = some p) : ∃ q, A = some q ∧ q.block = p.block := by
  unfold cutA at h
  split at h
  · exact ⟨p, h, rfl⟩
  · cases A with
    | none => cases h
    | some q =>
      simp only [Option.map_some, Option.some.injEq] at h
      refine ⟨q, rfl, ?_⟩
      rw [← h]; unfold Addr.add; split <;> rfl
abbrev Words := List (List UInt8)
def RdW (b : Nat) (xs : Words) (w : World) : Prop := ∃ A cap, w.heap[b]? = some (.cells #[.slice A xs.length cap] 52 (0, 0)) ∧ SlAt strC 1 9 A xs w ∧ (xs ≠ [] → ∀ p, A = some p → p.block < b) ∧ xs.length ≤ cap ∧ cap ≤ 9223372036854775807 ∧ xs.length ≤ 1000000 ∧ ∀ x ∈ xs, x.length ≤ 1000000
section
variable {b : Nat} {xs : Words} {w w' : World} {S : Nat → Prop}
theorem RdW.lt (h : RdW b xs w) : b < w.heap.size := by
  obtain ⟨A, cap, hb, _⟩ := h; exact lt_of_heap hb
theorem RdW.keeps (h : RdW b xs w) (k : Keeps S w w') (hn : ∀ i, S i → b < i) : RdW b xs w' := by
  obtain ⟨A, cap, hb, hs, hl, hc⟩ := h
  exact ⟨A, cap, k.heap hb (fun e => Nat.lt_irrefl _ (hn _ e)), hs.keeps k (fun hx p hp e => Nat.lt_asymm (hl hx p hp) (hn _ e)), hl, hc⟩
theorem RdW.adds (h : RdW b xs w) (k : Adds w w') : RdW b xs w' := h.keeps k (fun _ e => e.elim)
theorem RdW.len (h : RdW b xs w) : xs.length ≤ 1000000 := by
  obtain ⟨A, cap, hb, hs, hl, hc, hm, hx, _⟩ := h; exact hx
theorem RdW.words (h : RdW b xs w) : ∀ x ∈ xs, x.length ≤ 1000000 := by
  obtain ⟨A, cap, hb, hs, hl, hc, hm, _, hw⟩ := h; exact hw
theorem RdW.offO {α : Type} {cl : α → List Value} {m : Nat} {E : TypeId} {A : Option Addr} {cap : Nat} {ys : List α} (h : RdW b xs w) (o : OwAt cl m E A cap ys w) (hE : 52 ≠ E) : ¬ blk A = some b := by
  obtain ⟨A', cap', hb, _⟩ := h; exact o.offT hb hE
end
abbrev CHw : List PanicEntry := [{ v := .iface 100 (.agg #[]), recovered := false }]
abbrev RdR (b : Nat) (w : World) (r : Option (Value × Words)) (e : Ending) (w' : World) : Prop := Keeps (fun i => i = b) w w' ∧ match r with
  | some p => e = .returned p.1 ∧ RdW b p.2 w'
  | none => e = .panicked CHw
theorem RdR.yes {b : Nat} {w w' : World} {v : Value} {t : Words} {e : Ending} (k : Keeps (fun i => i = b) w w') (he : e = .returned v) (h : RdW b t w') : RdR b w (some (v, t)) e w' := ⟨k, he, h⟩
theorem RdR.no {b : Nat} {w w' : World} {e : Ending} (k : Keeps (fun i => i = b) w w') (he : e = .panicked CHw) : RdR b w none e w' := ⟨k, he⟩
theorem RdR.y {f : FuncId} {args : Array Value} {b : Nat} {w : World} {r : Option (Value × Words)} {v : Value} {t : Words} (h : Calls Tryd.prog f args w (RdR b w r)) (hr : r = some (v, t)) : Calls Tryd.prog f args w fun e w' => e = .returned v ∧ RdW b t w' ∧ Keeps (fun i => i = b) w w' :=
  h.mono fun e w' hh => by subst hr; exact ⟨hh.2.1, hh.2.2, hh.1⟩
theorem RdR.n {f : FuncId} {args : Array Value} {b : Nat} {w : World} {r : Option (Value × Words)} (h : Calls Tryd.prog f args w (RdR b w r)) (hr : r = none) : Calls Tryd.prog f args w fun e w' => e = .panicked CHw ∧ Keeps (fun i => i = b) w w' :=
  h.mono fun e w' hh => by subst hr; exact ⟨hh.2, hh.1⟩
theorem isSome_ex {α : Type} {o : Option α} (h : o.isSome = true) : ∃ x, o = some x := Option.isSome_iff_exists.1 h
theorem isSome_no {α : Type} {o : Option α} (h : o.isSome = false) : o = none := by
  cases o with
  | none => rfl
  | some x => cases h
def nextF : Words → Option (List UInt8 × Words)
  | [] => none
  | x :: t => some (x, t)
def numF (xs : Words) : Option (Nat × Words) := (nextF xs).bind fun p => if numP p.1 then some (numV p.1, p.2) else none
def tskF (xs : Words) : Option (GTask × Words) := (nextF xs).bind fun p => if taskP p.1 then some (taskV p.1, p.2) else none
def wrkF (k : Int) (xs : Words) : Option (PCmd × Words) := (numF xs).bind fun p => (numF p.2).bind fun q => some (⟨k, GOp.zero, (p.1 : Nat), (q.1 : Nat), 0, []⟩, q.2)
def chgF (x : List UInt8) (xs : Words) : Option (GOp × Words) :=
  if x = kAdmit ∨ x = kServe then (tskF xs).bind fun p => some (⟨1, p.1, decide (x = kServe), 0, 0, 0⟩, p.2)
  else if x = kRemove then (numF xs).bind fun p => some (⟨2, ⟨0, 0, 0, 0, 0⟩, false, (p.1 : Nat), 0, 0⟩, p.2)
  else if x = kResize then (numF xs).bind fun p => (numF p.2).bind fun q => some (⟨3, ⟨0, 0, 0, 0, 0⟩, false, (p.1 : Nat), (q.1 : Nat), 0⟩, q.2)
  else if x = kMode then (numF xs).bind fun p => some (⟨4, ⟨0, 0, 0, 0, 0⟩, false, 0, 0, (p.1 : Nat)⟩, p.2)
  else none
theorem numF_le {xs t : Words} {n : Nat} (h : numF xs = some (n, t)) : n ≤ 2147483648 := by
  unfold numF at h
  cases hx : nextF xs with
  | none => rw [hx] at h; cases h
  | some p =>
    rw [hx] at h
    simp only [Option.bind_some] at h
    split at h
    · cases h; exact numV_le _
    · cases h
theorem nextF_cons {xs t : Words} {x : List UInt8} (h : nextF xs = some (x, t)) : xs = x :: t := by
  cases xs with
  | nil => cases h
  | cons y ys => cases h; rfl
theorem numF_cons {xs t : Words} {n : Nat} (h : numF xs = some (n, t)) : ∃ x, xs = x :: t := by
  cases xs with
  | nil => cases h
  | cons y ys =>
    unfold numF nextF at h
    simp only [Option.bind_some] at h
    split at h
    · cases h; exact ⟨_, rfl⟩
    · cases h
theorem nextF_le {b : Nat} {xs t : Words} {x : List UInt8} {w : World} (hr : RdW b xs w) (h : nextF xs = some (x, t)) : x.length ≤ 1000000 := by
  have e := nextF_cons h
  exact hr.words x (e ▸ List.mem_cons_self ..)
theorem nextF_len {xs t : Words} {x : List UInt8} (h : nextF xs = some (x, t)) : xs.length = t.length + 1 := by rw [nextF_cons h]; rfl
theorem numF_len {xs t : Words} {n : Nat} (h : numF xs = some (n, t)) : xs.length = t.length + 1 := by
  obtain ⟨x, rfl⟩ := numF_cons h; rfl
theorem wrkF_ex {k : Int} {xs t : Words} {v : PCmd} (h : wrkF k xs = some (v, t)) : ∃ i j : Int, v = ⟨k, GOp.zero, i, j, 0, []⟩ := by
  unfold wrkF at h
  cases h1 : numF xs with
  | none => rw [h1] at h; cases h
  | some p =>
    rw [h1] at h
    simp only [Option.bind_some] at h
    cases h2 : numF p.2 with
    | none => rw [h2] at h; cases h
    | some q => rw [h2] at h; cases h; exact ⟨_, _, rfl⟩
def fatS (x : List UInt8) (t : Words) : Option (GFate × Words) :=
  if x = kLost then some (⟨0, 0⟩, t) else if x = kKept then some (⟨1, 0⟩, t) else if x = kTorn then (numF t).map fun p => (⟨2, (p.1 : Nat)⟩, p.2) else none
theorem fatS_len {x : List UInt8} {t u : Words} {f : GFate} (h : fatS x t = some (f, u)) : u.length ≤ t.length := by
  unfold fatS at h
  split at h
  · cases h; exact Nat.le_refl _
  · split at h
    · cases h; exact Nat.le_refl _
    · split at h
      · cases hn : numF t with
        | none => rw [hn] at h; cases h
        | some p =>
          rw [hn] at h
          obtain ⟨n, v⟩ := p
          cases h
          have := numF_len hn; simp only; omega
      · cases h
def fatN : Nat → Words → Option (List GFate)
  | _, [] => some []
  | 0, _ :: _ => none
  | n + 1, x :: t => (fatS x t).bind fun p => (fatN n p.2).map (p.1 :: ·)
def fatF (xs : Words) : Option (List GFate) := fatN xs.length xs
theorem fatN_up : ∀ (n : Nat) (xs : Words), xs.length ≤ n → fatN n xs = fatN xs.length xs
  | n, [], _ => by cases n <;> rfl
  | 0, _ :: _, h => by simp at h
  | n + 1, x :: t, h => by
    simp only [List.length_cons] at h
    rw [List.length_cons, fatN, fatN]
    cases hs : fatS x t with
    | none => rfl
    | some p =>
      obtain ⟨f, u⟩ := p
      have hl := fatS_len hs
      simp only [Option.bind_some]
      rw [fatN_up n u (by omega), fatN_up t.length u (by omega)]
theorem fatF_cons (x : List UInt8) (t : Words) : fatF (x :: t) = (fatS x t).bind fun p => (fatF p.2).map (p.1 :: ·) := by
  unfold fatF
  rw [List.length_cons, fatN]
  cases hs : fatS x t with
  | none => rfl
  | some p =>
    obtain ⟨f, u⟩ := p
    simp only [Option.bind_some]
    rw [fatN_up t.length u (fatS_len hs)]
def fatI (xs t : Words) (out : List GFate) : Prop := fatF xs = (fatF t).map (out ++ ·)
theorem fatI_zero (xs : Words) : fatI xs xs [] := by unfold fatI; simp
theorem fatI_succ {xs t u v : Words} {out : List GFate} {x : List UInt8} {f : GFate} (h : fatI xs t out) (hq : nextF t = some (x, u)) (hf : fatS x u = some (f, v)) : fatI xs v (out ++ [f]) := by
  unfold fatI at h ⊢
  rw [h, nextF_cons hq, fatF_cons, hf]
  simp only [Option.bind_some, Option.map_map]
  congr 1
  funext l
  simp
theorem fatI_end {xs : Words} {out : List GFate} (h : fatI xs [] out) : fatF xs = some out := by
  unfold fatI at h
  rw [h]; simp [fatF, fatN]
theorem fatI_no {xs t u : Words} {out : List GFate} {x : List UInt8} (h : fatI xs t out) (hq : nextF t = some (x, u)) (hf : fatS x u = none) : fatF xs = none := by
  unfold fatI at h
  rw [h, nextF_cons hq, fatF_cons, hf]; rfl
theorem fatF_len {xs : Words} {l : List GFate} (h : fatF xs = some l) : l.length ≤ xs.length := by
  have key : ∀ (n : Nat) (xs : Words) (l : List GFate), fatN n xs = some l → l.length ≤ xs.length := by
    intro n
    induction n with
    | zero =>
      intro xs l h
      cases xs with
      | nil => cases h; simp
      | cons x t => cases h
    | succ n ih =>
      intro xs l h
      cases xs with
      | nil => cases h; simp
      | cons x t =>
        rw [fatN] at h
        cases hs : fatS x t with
        | none => rw [hs] at h; cases h
        | some p =>
          obtain ⟨f, u⟩ := p
          rw [hs, Option.bind_some] at h
          have hl := fatS_len hs
          simp only at h
          cases hf : fatN n u with
          | none => rw [hf] at h; cases h
          | some l2 =>
            rw [hf] at h
            cases h
            have := ih u l2 hf
            simp only [List.length_cons]; omega
  exact key _ _ _ h
abbrev FatR (b : Nat) (w : World) (r : Option (List GFate)) (e : Ending) (w' : World) : Prop := Keeps (fun i => i = b) w w' ∧ match r with
  | some fs => ∃ A c, e = .returned (.slice A fs.length c) ∧ OwAt fateC 2 89 A c fs w' ∧ (∀ i, blk A = some i → w.heap.size ≤ i) ∧ RdW b [] w'
  | none => e = .panicked CHw
theorem FatR.y {f : FuncId} {args : Array Value} {b : Nat} {w : World} {r : Option (List GFate)} {fs : List GFate} (h : Calls Tryd.prog f args w (FatR b w r)) (hr : r = some fs) : Calls Tryd.prog f args w fun e w' => ∃ A c, e = .returned (.slice A fs.length c) ∧ OwAt fateC 2 89 A c fs w' ∧ (∀ i, blk A = some i → w.heap.size ≤ i) ∧ RdW b [] w' ∧ Keeps (fun i => i = b) w w' :=
  h.mono fun e w' hh => by subst hr; obtain ⟨k, A, c, h1, h2, h3, h4⟩ := hh; exact ⟨A, c, h1, h2, h3, h4, k⟩
theorem FatR.n {f : FuncId} {args : Array Value} {b : Nat} {w : World} {r : Option (List GFate)} (h : Calls Tryd.prog f args w (FatR b w r)) (hr : r = none) : Calls Tryd.prog f args w fun e w' => e = .panicked CHw ∧ Keeps (fun i => i = b) w w' :=
  h.mono fun e w' hh => by subst hr; exact ⟨hh.2, hh.1⟩
abbrev CmdR (b : Nat) (w : World) (r : Option PCmd) (e : Ending) (w' : World) : Prop := Keeps (fun i => i = b) w w' ∧ match r with
  | some p => ∃ A c, e = .returned (GCmd.val ⟨p, A, c⟩) ∧ OwAt fateC 2 89 A c p.fs w' ∧ (∀ i, blk A = some i → w.heap.size ≤ i)
  | none => e = .panicked CHw
theorem CmdR.y {f : FuncId} {args : Array Value} {b : Nat} {w : World} {r : Option PCmd} {p : PCmd} (h : Calls Tryd.prog f args w (CmdR b w r)) (hr : r = some p) : Calls Tryd.prog f args w fun e w' => ∃ A c, e = .returned (GCmd.val ⟨p, A, c⟩) ∧ OwAt fateC 2 89 A c p.fs w' ∧ (∀ i, blk A = some i → w.heap.size ≤ i) ∧ Keeps (fun i => i = b) w w' :=
  h.mono fun e w' hh => by subst hr; obtain ⟨k, A, c, h1, h2, h3⟩ := hh; exact ⟨A, c, h1, h2, h3, k⟩
theorem CmdR.n {f : FuncId} {args : Array Value} {b : Nat} {w : World} {r : Option PCmd} (h : Calls Tryd.prog f args w (CmdR b w r)) (hr : r = none) : Calls Tryd.prog f args w fun e w' => e = .panicked CHw ∧ Keeps (fun i => i = b) w w' :=
  h.mono fun e w' hh => by subst hr; exact ⟨hh.2, hh.1⟩
noncomputable def bodF (x : List UInt8) (t : Words) : Option (PCmd × Words) :=
  if x = kRelease then wrkF 2 t
  else if x = kAsk then wrkF 3 t
  else if x = kTick then (numF t).map fun p => (⟨4, GOp.zero, 0, 0, (p.1 : Nat), []⟩, p.2)
  else if x = kFail then (numF t).map fun p => (⟨7, GOp.zero, 0, 0, (p.1 : Nat), []⟩, p.2)
  else if x = kQuery then (numF t).map fun p => (⟨5, GOp.zero, (p.1 : Nat), 0, 0, []⟩, p.2)
  else if x = kSnapshot then some (⟨6, GOp.zero, 0, 0, 0, []⟩, t)
  else if x = kStart then some (⟨9, GOp.zero, 0, 0, 0, []⟩, t)
  else if x = kCrash then (fatF t).map fun l => (⟨8, GOp.zero, 0, 0, 0, l⟩, [])
  else (chgF x t).map fun p => (⟨1, p.1, 0, 0, 0, []⟩, p.2)
noncomputable def cmdF (xs : Words) : Option PCmd := (nextF xs).bind fun p => (bodF p.1 p.2).bind fun q => if q.2 = [] ∧ cokB q.1 = true then some q.1 else none
theorem cmdF_y {xs t u : Words} {x : List UInt8} {p : PCmd} (h : nextF xs = some (x, t)) (hb : bodF x t = some (p, u)) (hu : u = []) (hk : cokB p = true) : cmdF xs = some p := by
  unfold cmdF
  rw [h, Option.bind_some, hb, Option.bind_some, if_pos ⟨hu, hk⟩]
theorem cmdF_n {xs t u : Words} {x : List UInt8} {p : PCmd} (h : nextF xs = some (x, t)) (hb : bodF x t = some (p, u)) (hu : ¬ (u = [] ∧ cokB p = true)) : cmdF xs = none := by
  unfold cmdF
  rw [h, Option.bind_some, hb, Option.bind_some, if_neg hu]
theorem cmdF_b {xs t : Words} {x : List UInt8} (h : nextF xs = some (x, t)) (hb : bodF x t = none) : cmdF xs = none := by
  unfold cmdF
  rw [h, Option.bind_some, hb]; rfl
theorem cmdF_0 {xs : Words} (h : nextF xs = none) : cmdF xs = none := by
  unfold cmdF
  rw [h]; rfl
end Go.Proofs.YtoeinhlmkpgjhaaDoor
namespace Go.Proofs.YtoeinhlmkpgjhaaDoor
open Go.RowKit
set_option linter.unusedVariables false
set_option linter.unusedSimpArgs false
set_option maxRecDepth 100000 in
set_option maxHeartbeats 4000000 in
theorem lnMust_c (c : Bool) (w : World) : Calls Tryd.prog 37 #[.bool c] w fun e w' => (if c = true then e = .returned (.tuple #[]) else e = .panicked CHw) ∧ Adds w w' := by
  have K : Keeps (fun _ => False) w w := Keeps.refl _ w
  refine Calls.start Tryd.func37 rfl (by kernel_rfl) ?_
  refine WC.seq ?_
  refine WC.region ?_
  refine WL.op (d := 2) (.bool c) (k := ?_)
  refine WL.op (d := 3) (.bool (!(c))) (k := ?_)
  refine WL.nil ?_
  refine WX.seqN ?_
  refine WC.cond (b := !(c)) (ht := fun h1 => ?_) (hf := fun h1 => ?_)
  · have h2 : (c) = false := Bool.not_inj (y := false) h1
    refine WC.region ?_
    refine WL.op (d := 4) (.agg #[]) (k := ?_)
    refine WL.op (d := 5) (.iface 100 (.agg #[])) (k := ?_)
    refine WL.panicV (.iface 100 (.agg #[])) (by kernel_rfl) (by kernel_rfl) (by kernel_rfl) ?_
    refine WX.pan ?_
    refine ⟨?_, K⟩
    have c_ : c = false := by simpa using h1
    rw [c_]; rfl
  · have h3 : (c) = true := Bool.not_inj (y := true) h1
    refine WC.skip ?_
    refine WX.end (rs := []) [] (.tuple #[]) trivial (k := ?_)
    refine ⟨?_, K⟩
    have c_ : c = true := by simpa using h1
    rw [c_]; rfl
theorem lnMust_y {c : Bool} (h : c = true) (w : World) : Calls Tryd.prog 37 #[.bool c] w fun e w' => e = .returned (.tuple #[]) ∧ Adds w w' := (lnMust_c c w).mono fun e w' hh => ⟨by have := hh.1; rw [if_pos h] at this; exact this, hh.2⟩
theorem lnMust_n {c : Bool} (h : c = false) (w : World) : Calls Tryd.prog 37 #[.bool c] w fun e w' => e = .panicked CHw ∧ Adds w w' := (lnMust_c c w).mono fun e w' hh => ⟨by have := hh.1; rw [if_neg (by rw [h]; decide)] at this; exact this, hh.2⟩
set_option maxRecDepth 100000 in
set_option maxHeartbeats 4000000 in
theorem lnNext_c {b : Nat} {xs : Words} {w : World} (hr : RdW b xs w) : Calls Tryd.prog 32 #[.pointer (some ⟨b, 0, none⟩)] w (RdR b w ((nextF xs).map fun p => (.string ⟨p.1.toArray⟩, p.2))) := by
  have K : Keeps (fun i => i = b) w w := Keeps.refl _ w
  have lt0_ := hr.lt
  refine Calls.start Tryd.func32 rfl (by kernel_rfl) ?_
  refine WC.seq ?_
  refine WC.region ?_
  refine WL.op (d := 2) (.string ⟨#[]⟩) (k := ?_)
  refine WL.nil ?_
  refine WX.seqN ?_
  refine WC.seq ?_
  obtain ⟨A1, c2, hb3, hs4, hl5, hc6, hm7, hz8, hx9⟩ := id hr
  refine WC.region ?_
  refine WL.op (d := 4) (.pointer (some ⟨b, 0, none⟩)) (k := ?_)
  refine WL.op (d := 5) (.pointer (some ⟨b, 0, none⟩)) (k := ?_)
  refine WL.op (d := 6) (.pointer (some ⟨b, 0, none⟩)) (k := ?_)
  refine WL.load (v := .slice A1 xs.length c2) (ld1 (T := 46) (i := 0) hb3) (k := ?_)
  refine WL.op (d := 8) (.int .i64 (xs.length : Int)) (k := ?_)
  refine WL.op (d := 9) (.bool (decide ((xs.length : Int) > 0))) (k := ?_)
  refine bsplit (decide ((xs.length : Int) > 0)) (fun h10 => ?_) (fun h10 => ?_)
  · have ph10 := of_decide_eq_true h10
    refine WL.callG (d := 10) (f := 37) (args := #[.bool (decide ((xs.length : Int) > 0))]) (lnMust_y h10 w) (k := fun e_ w11 h_ => ⟨.tuple #[], h_.1, ?_⟩)
    have k12 := h_.2; clear h_
    replace hb3 := k12.heap hb3 id
    replace hs4 := hs4.adds k12
    replace K := K.trans (k12.any _)
    refine WL.nil ?_
    refine WX.seqN ?_
    refine WC.seq ?_
    refine WC.region ?_
    refine WL.op (d := 11) (.pointer (some ⟨b, 0, none⟩)) (k := ?_)
    refine WL.op (d := 12) (.pointer (some ⟨b, 0, none⟩)) (k := ?_)
    refine WL.op (d := 13) (.pointer (some ⟨b, 0, none⟩)) (k := ?_)
    refine WL.load (v := .slice A1 xs.length c2) (ld1 (T := 46) (i := 0) hb3) (k := ?_)
    obtain ⟨b13, o14, r15, hr16, hA17, he18⟩ := SlAt.at hs4 (i := 0) (by omega) (by omega)
    refine WL.rw (t := 14) (v := .slice (some ⟨b13, o14, none⟩) xs.length c2) (congrArg (fun a => Value.slice a xs.length c2) hA17) (k := ?_)
    refine WL.idx (T := 46) (E := 9) (m := 1) (b := b13) (o := o14) (len := xs.length) (cap := c2) (i := 0) (kk := .i64) (d := 15) (by omega) (by omega) (k := ?_)
    refine WL.rw (t := 14) (v := .slice A1 xs.length c2) (congrArg (fun a => Value.slice a xs.length c2) (Eq.symm hA17)) (k := ?_)
    refine WL.load (v := .string ⟨(r15).toArray⟩) (he18.ld0 (T := 9)) (k := ?_)
    refine WL.op (d := 3) (.string ⟨(r15).toArray⟩) (k := ?_)
    refine WL.nil ?_
    refine WX.seqN ?_
    refine WC.seq ?_
    refine WC.region ?_
    refine WL.op (d := 17) (.pointer (some ⟨b, 0, none⟩)) (k := ?_)
    refine WL.op (d := 18) (.pointer (some ⟨b, 0, none⟩)) (k := ?_)
    refine WL.op (d := 19) (.pointer (some ⟨b, 0, none⟩)) (k := ?_)
    refine WL.op (d := 20) (.pointer (some ⟨b, 0, none⟩)) (k := ?_)
    refine WL.load (v := .slice A1 xs.length c2) (ld1 (T := 46) (i := 0) hb3) (k := ?_)
    have hs19 := SlAt.cutD (a := 1) (c := c2) hs4 (by omega) (by omega)
    refine WL.cut (d := 22) (vx := .slice A1 xs.length c2) (lo' := (some (.int .i64 1))) (hi' := none) (mx' := none) (v := .slice (cutA A1 c2 1 1) ((List.drop 1 xs).length) (c2 - 1)) (run_cutSl (a := 1) (b := xs.length) (c := c2) (m := 1) (E := 9) (by kernel_rfl) (by kernel_rfl) (.inl ⟨rfl, rfl⟩) (.inl ⟨rfl, rfl, rfl⟩) (.inr ⟨_, _, rfl, by omega⟩) (by omega) (by omega) rfl (by simp <;> omega) (by omega)) (k := ?_)
    refine WL.op (d := 23) (.pointer (some ⟨b, 0, none⟩)) (k := ?_)
    refine WL.op (d := 24) (.pointer (some ⟨b, 0, none⟩)) (k := ?_)
    refine WL.store (v := .slice (cutA A1 c2 1 1) ((List.drop 1 xs).length) (c2 - 1)) (i := 0) (cs' := #[.slice (cutA A1 c2 1 1) ((List.drop 1 xs).length) (c2 - 1)]) hb3 (k := fun w20 hb21 k22 => ?_)
    replace hs19 := hs19.keeps k22 (fun hx p hp e => by obtain ⟨p0, hp0, hpb⟩ := cutA_blk hp; have := hl5 (fun k => hx (by rw [k]; rfl)) p0 hp0; omega)
    replace K := K.trans' k22 (fun i hi e => e)
    clear hb3
    refine WL.nil ?_
    refine WX.seqN ?_
    refine WC.seq ?_
    refine WC.region ?_
    refine WL.op (d := 25) (.string ⟨(r15).toArray⟩) (k := ?_)
    refine WL.op (d := 2) (.string ⟨(r15).toArray⟩) (k := ?_)
    refine WL.nil ?_
    refine WX.seqN ?_
    refine WC.ret ?_
    refine WX.ret (rs := [.tmp 2]) [.string ⟨(r15).toArray⟩] (.string ⟨(r15).toArray⟩) ⟨(by kernel_rfl), trivial⟩ (k := ?_)
    have e_ : xs = r15 :: List.drop 1 xs := by
      cases xs with
      | nil => simp at hr16
      | cons y ys => simp at hr16; rw [hr16]; rfl
    have ne_ : xs ≠ [] := fun k => by rw [k] at e_; cases e_
    have f_ : nextF xs = some (r15, List.drop 1 xs) := (congrArg nextF e_).trans rfl
    rw [f_]
    exact RdR.yes K rfl ⟨_, _, hb21, hs19, fun _ p hp => by obtain ⟨p0, hp0, hpb⟩ := cutA_blk hp; rw [← hpb]; exact hl5 ne_ p0 hp0, by simp; omega, by omega, by simp; omega, fun y hy => hx9 y (List.mem_of_mem_drop hy)⟩
  · have ph10 := of_decide_eq_false h10
    refine WL.callGP (f := 37) (args := #[.bool (decide ((xs.length : Int) > 0))]) (lnMust_n h10 w) (by kernel_rfl) (by kernel_rfl) (by kernel_rfl) (fun e_ w23 h_ => ?_)
    obtain ⟨rfl, k24⟩ := h_
    refine ⟨_, rfl, ?_⟩
    replace hb3 := k24.heap hb3 id
    replace hs4 := hs4.adds k24
    replace K := K.trans (k24.any _)
    refine WX.seqP ?_
    refine WX.pan ?_
    have e_ : xs = [] := List.eq_nil_of_length_eq_zero (by omega)
    subst e_
    exact RdR.no K rfl
set_option maxRecDepth 100000 in
set_option maxHeartbeats 4000000 in
theorem lnRnum_c {b : Nat} {xs : Words} {w : World} (hr : RdW b xs w) : Calls Tryd.prog 51 #[.pointer (some ⟨b, 0, none⟩)] w (RdR b w ((numF xs).map fun p => (.int .i64 (p.1 : Int), p.2))) := by
  have K : Keeps (fun i => i = b) w w := Keeps.refl _ w
  have lt0_ := hr.lt
  have lw_ := hr
  refine Calls.start Tryd.func51 rfl (by kernel_rfl) ?_
  refine WC.seq ?_
  refine WC.region ?_
  refine WL.op (d := 2) (.int .i64 0) (k := ?_)
  refine WL.nil ?_
  refine WX.seqN ?_
  refine WC.seq ?_
  refine WC.region ?_
  refine WL.op (d := 6) (.pointer (some ⟨b, 0, none⟩)) (k := ?_)
  refine bsplit (Option.isSome (nextF xs)) (fun h1 => ?_) (fun h1 => ?_)
  · obtain ⟨⟨v4, t5⟩, hq2⟩ := isSome_ex h1
    have nl7 := nextF_le hr hq2
    have nl8 := nextF_len hq2
    refine WL.callG (d := 7) (f := 32) (args := #[.pointer (some ⟨b, 0, none⟩)]) (RdR.y (lnNext_c hr) (by rw [hq2]; rfl)) (k := fun e_ w9 h_ => ?_)
    obtain ⟨rfl, hr6, k3⟩ := h_
    refine ⟨_, rfl, ?_⟩
    replace K := K.trans' k3 (fun i hi e => e)
    clear hr
    refine WL.callG (d := 8) (f := 24) (args := #[.string ⟨(v4).toArray⟩]) (lnNumber_c (l := v4) (by show List.length v4 ≤ _; first | omega | (simp; done) | (simp; omega)) w9) (k := fun e_ w11 h_ => ⟨.tuple #[.int .i64 ((numV v4 : Nat) : Int), .bool (decide (numP v4))], h_.1, ?_⟩)
    have k12 := h_.2; clear h_
    replace hr6 := hr6.adds k12
    replace K := K.trans (k12.any _)
    have nv10 := numV_le v4
    refine WL.op (d := 5) (.tuple #[.int .i64 ((numV v4 : Nat) : Int), .bool (decide (numP v4))]) (k := ?_)
    refine WL.op (d := 9) (.int .i64 ((numV v4 : Nat) : Int)) (k := ?_)
    refine WL.op (d := 10) (.bool (decide (numP v4))) (k := ?_)
    refine WL.op (d := 3) (.int .i64 ((numV v4 : Nat) : Int)) (k := ?_)
    refine WL.op (d := 4) (.bool (decide (numP v4))) (k := ?_)
    refine WL.nil ?_
    refine WX.seqN ?_
    refine WC.seq ?_
    refine WC.region ?_
    refine WL.op (d := 11) (.bool (decide (numP v4))) (k := ?_)
    refine bsplit (decide (numP v4)) (fun h13 => ?_) (fun h13 => ?_)
    · have ph13 := of_decide_eq_true h13
      refine WL.callG (d := 12) (f := 37) (args := #[.bool (decide (numP v4))]) (lnMust_y h13 w11) (k := fun e_ w14 h_ => ⟨.tuple #[], h_.1, ?_⟩)
      have k15 := h_.2; clear h_
      replace hr6 := hr6.adds k15
      replace K := K.trans (k15.any _)
      refine WL.nil ?_
      refine WX.seqN ?_
      refine WC.seq ?_
      refine WC.region ?_
      refine WL.op (d := 13) (.int .i64 ((numV v4 : Nat) : Int)) (k := ?_)
      refine WL.op (d := 2) (.int .i64 ((numV v4 : Nat) : Int)) (k := ?_)
      refine WL.nil ?_
      refine WX.seqN ?_
      refine WC.ret ?_
      refine WX.ret (rs := [.tmp 2]) [.int .i64 ((numV v4 : Nat) : Int)] (.int .i64 ((numV v4 : Nat) : Int)) ⟨(by kernel_rfl), trivial⟩ (k := ?_)
      have e_ : numF xs = some (numV v4, t5) := by simp [numF, hq2, ph13]
      rw [e_]
      exact RdR.yes K rfl hr6
    · have ph13 := of_decide_eq_false h13
      refine WL.callGP (f := 37) (args := #[.bool (decide (numP v4))]) (lnMust_n h13 w11) (by kernel_rfl) (by kernel_rfl) (by kernel_rfl) (fun e_ w16 h_ => ?_)
      obtain ⟨rfl, k17⟩ := h_
      refine ⟨_, rfl, ?_⟩
      replace hr6 := hr6.adds k17
      replace K := K.trans (k17.any _)
      refine WX.seqP ?_
      refine WX.pan ?_
      have e_ : numF xs = none := by simp [numF, hq2, ph13]
      rw [e_]
      exact RdR.no K rfl
  · have hq18 := isSome_no h1
    refine WL.callGP (f := 32) (args := #[.pointer (some ⟨b, 0, none⟩)]) (RdR.n (lnNext_c hr) (by rw [hq18]; rfl)) (by kernel_rfl) (by kernel_rfl) (by kernel_rfl) (fun e_ w20 h_ => ?_)
    obtain ⟨rfl, k19⟩ := h_
    refine ⟨_, rfl, ?_⟩
    replace K := K.trans' k19 (fun i hi e => e)
    clear hr
    refine WX.seqP ?_
    refine WX.pan ?_
    have e_ : numF xs = none := by simp [numF, hq18]
    rw [e_]
    exact RdR.no K rfl
set_option maxRecDepth 100000 in
set_option maxHeartbeats 4000000 in
theorem lnRint_c {b : Nat} {xs : Words} {w : World} (hr : RdW b xs w) : Calls Tryd.prog 34 #[.pointer (some ⟨b, 0, none⟩)] w (RdR b w ((numF xs).map fun p => (.int .i64 (p.1 : Int), p.2))) := by
  have K : Keeps (fun i => i = b) w w := Keeps.refl _ w
  have lt0_ := hr.lt
  refine Calls.start Tryd.func34 rfl (by kernel_rfl) ?_
  refine WC.seq ?_
  refine WC.region ?_
  refine WL.op (d := 2) (.int .i64 0) (k := ?_)
  refine WL.nil ?_
  refine WX.seqN ?_
  refine WC.seq ?_
  refine WC.region ?_
  refine WL.op (d := 3) (.pointer (some ⟨b, 0, none⟩)) (k := ?_)
  refine bsplit (Option.isSome (numF xs)) (fun h1 => ?_) (fun h1 => ?_)
  · obtain ⟨⟨v4, t5⟩, hq2⟩ := isSome_ex h1
    have nl7 := numF_le hq2
    have nl8 := numF_len hq2
    refine WL.callG (d := 4) (f := 51) (args := #[.pointer (some ⟨b, 0, none⟩)]) (RdR.y (lnRnum_c hr) (by rw [hq2]; rfl)) (k := fun e_ w9 h_ => ?_)
    obtain ⟨rfl, hr6, k3⟩ := h_
    refine ⟨_, rfl, ?_⟩
    replace K := K.trans' k3 (fun i hi e => e)
    clear hr
    refine WL.op (d := 2) (.int .i64 (v4 : Int)) (k := ?_)
    refine WL.nil ?_
    refine WX.seqN ?_
    refine WC.ret ?_
    refine WX.ret (rs := [.tmp 2]) [.int .i64 (v4 : Int)] (.int .i64 (v4 : Int)) ⟨(by kernel_rfl), trivial⟩ (k := ?_)
    have e_ : numF xs = some (v4, t5) := by simp [hq2]
    rw [e_]
    exact RdR.yes K rfl hr6
  · have hq10 := isSome_no h1
    refine WL.callGP (f := 51) (args := #[.pointer (some ⟨b, 0, none⟩)]) (RdR.n (lnRnum_c hr) (by rw [hq10]; rfl)) (by kernel_rfl) (by kernel_rfl) (by kernel_rfl) (fun e_ w12 h_ => ?_)
    obtain ⟨rfl, k11⟩ := h_
    refine ⟨_, rfl, ?_⟩
    replace K := K.trans' k11 (fun i hi e => e)
    clear hr
    refine WX.seqP ?_
    refine WX.pan ?_
    have e_ : numF xs = none := by simp [hq10]
    rw [e_]
    exact RdR.no K rfl
end Go.Proofs.YtoeinhlmkpgjhaaDoor
