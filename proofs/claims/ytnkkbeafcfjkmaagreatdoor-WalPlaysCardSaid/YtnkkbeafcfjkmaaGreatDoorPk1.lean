/- Mem, Sx, Sx2, Bu, Pure3, OctW, Mem2, Bu2, App, Wr, Wr2, OctR, OctR2, OctR3, Ref3, Ref3b, Ref3c, Ref3d, Sx3, Sx4, Sx5, Sx6, Sx7, Sx8, Sg, Sb0, Cr0, Cr1, Fr0, Cr2, Fr1, Fr2, Fr3, Shl, Fr3b: one behind the other. -/
import Derived.Below
import Derived.Lib.FrozenHead2
import Derived.Lib.OthersKept
import Derived.WalkKit
import Derived.Deep.QuietTactic
import Derived.Lib.Strings
import Derived.Tactics
import Derived.Deep.LoopGhost
import Derived.Deep.Quiet
import Derived.StillTail
import Derived.KernelRfl
import Derived.IntWalk
import Derived.TacticsIn
import Derived.OrdersIn
import Derived.Sort.LoopGhostIn
import Derived.Test.YtnkkbeafcfjkmaaGreatDoorProg
import Derived.Lib.Builder
import Derived.Lib.AppendStr
import Derived.Lib.UnsafeStr
import Derived.Lib.MakeNoZero
import Derived.Lib.Walk
import Derived.Lib.Slices
import Derived.Laws.Externs
import Derived.Laws.IdiomCopy
import Derived.Laws.BitsLemmas
import Derived.WalkSpells
import Derived.BigCall
import Derived.Lib.BitFns
import Derived.Shelf.Strconv.Itoa0
import Derived.StillTailTactics
import Derived.BigQuiet
import Derived.Lib.Hide
import Derived.Laws.BitsAllLaws
import Derived.Lib.ConvBytes
import Derived.Laws.BytesString
import Derived.Laws.BytesArg
import Derived.Deep.RegionHeld3
import Derived.Maps.AppendAt
import Derived.Laws.OwnMore
import Derived.Scope
import Derived.Tactics2
import Derived.Defers
import Derived.Laws.Pointers
import Derived.Laws.LoneSync
import Derived.RegionTactic
import Derived.RegionCalls
import Derived.Shelf.Strings.Repeat
import Derived.RangeFuncLeaves
import Derived.RangeFuncRecord
import Derived.LoopNIn
import Derived.Test.YtnkkbeafcfjkmaaGreatDoorArgs
namespace Go.Proofs.YtnkkbeafcfjkmaaGreatDoor
open Go.RowKit
structure Keeps (S : Nat → Prop) (w w' : World) : Prop where
  os : w'.os = w.os
  tape : w'.tape = w.tape
  output : w'.output = w.output
  size : w.heap.size ≤ w'.heap.size
  block : ∀ k, k < w.heap.size → ¬ S k → w'.heap[k]? = w.heap[k]?
theorem Keeps.refl (S : Nat → Prop) (w : World) : Keeps S w w := ⟨rfl, rfl, rfl, Nat.le_refl _, fun _ _ _ => rfl⟩
theorem Keeps.trans' {S S' : Nat → Prop} {a b c : World} (h : Keeps S a b) (k : Keeps S' b c) (hs : ∀ i, i < a.heap.size → S' i → S i) : Keeps S a c :=
  ⟨k.os.trans h.os, k.tape.trans h.tape, k.output.trans h.output, Nat.le_trans h.size k.size, fun i hi hn => (k.block i (Nat.lt_of_lt_of_le hi h.size) (fun x => hn (hs i hi x))).trans (h.block i hi hn)⟩
theorem Keeps.trans {S : Nat → Prop} {a b c : World} (h : Keeps S a b) (k : Keeps S b c) : Keeps S a c := h.trans' k (fun _ _ x => x)
theorem Keeps.mono {S S' : Nat → Prop} {a b : World} (h : Keeps S a b) (hs : ∀ i, i < a.heap.size → S i → S' i) : Keeps S' a b :=
  ⟨h.os, h.tape, h.output, h.size, fun i hi hn => h.block i hi (fun x => hn (hs i hi x))⟩
theorem Keeps.drew {S : Nat → Prop} {a w : World} (h : Keeps S a w) : Keeps S a w.drew := ⟨h.os, h.tape, h.output, h.size, h.block⟩
theorem Keeps.alloc {S : Nat → Prop} {a w : World} (h : Keeps S a w) (o : Obj) : Keeps S a (w.alloc o) :=
  ⟨h.os, h.tape, h.output, by have := h.size; simp; omega, fun i hi hn => by
    rw [Below.heap_alloc _ _ _ (by have := h.size; omega)]; exact h.block i hi hn⟩
theorem Keeps.setCell {S : Nat → Prop} {a w : World} (h : Keeps S a w) (p : Addr) (u : Value) (hp : p.block < a.heap.size → S p.block) : Keeps S a (w.setCell p u) :=
  ⟨h.os, h.tape, h.output, by have := h.size; simp [World.setCell]; omega, fun i hi hn => by
    have hne : i ≠ p.block := by intro e; subst e; exact hn (hp hi)
    rw [Below.heap_setCell _ _ _ _ hne]; exact h.block i hi hn⟩
theorem Keeps.grown {S : Nat → Prop} {a w w' : World} {row : Option Nat} (h : Keeps S a w) (hg : w.grownBy w' row) (hr : ∀ k, row = some k → k < a.heap.size → S k) : Keeps S a w' :=
  ⟨hg.os.trans h.os, hg.tape.trans h.tape, hg.output.trans h.output, Nat.le_trans h.size hg.size, fun i hi hn => by
    rw [hg.block i (by have := h.size; omega) (fun e => hn (hr i e.symm hi))]; exact h.block i hi hn⟩
theorem Keeps.freeze {S : Nat → Prop} {a w : World} (h : Keeps S a w) (p : Addr) (n : Nat) (hp : p.block < a.heap.size → S p.block) : Keeps S a (w.freeze p n) := by
  unfold World.freeze
  split
  · exact h
  · exact ⟨h.os, h.tape, h.output, by have := h.size; simpa using this, fun i hi hn => by
      simp only [Array.getElem?_modify]
      have hne : p.block ≠ i := by intro e; subst e; exact hn (hp hi)
      rw [if_neg hne]; exact h.block i hi hn⟩
theorem Keeps.below {S : Nat → Prop} {a b : World} (h : Keeps S a b) {B : Nat} (hB : B ≤ a.heap.size) (hs : ∀ i, i < B → ¬ S i) : Below B a b :=
  ⟨h.os, h.tape, h.output, h.size, fun k hk => h.block k (by omega) (hs k hk)⟩
theorem Keeps.heap {S : Nat → Prop} {a b : World} (h : Keeps S a b) {k : Nat} {o : Obj} (ho : a.heap[k]? = some o) (hn : ¬ S k) : b.heap[k]? = some o := by
  rw [h.block k (Array.getElem?_eq_some_iff.1 ho).1 hn]; exact ho
abbrev Adds (w w' : World) : Prop := Keeps (fun _ => False) w w'
theorem Adds.below {w w' : World} (h : Adds w w') : Below w.heap.size w w' := Keeps.below h (Nat.le_refl _) (fun _ _ x => x)
theorem Adds.any {w w' : World} (h : Adds w w') (S : Nat → Prop) : Keeps S w w' := h.mono (fun _ _ x => x.elim)
theorem lt_of_heap {w : World} {k : Nat} {o : Obj} (h : w.heap[k]? = some o) : k < w.heap.size := (Array.getElem?_eq_some_iff.1 h).1
theorem heap_alloc_new' (w : World) (x : Obj) : (w.alloc x).heap[w.heap.size]? = some x := by
  show (w.heap.push x)[w.heap.size]? = some x
  simp
theorem heap_set_same {w : World} {b : Nat} {cs : Array Value} {T : TypeId} {fr : Nat × Nat} (h : w.heap[b]? = some (.cells cs T fr)) (j : Nat) (v : Value) :
    (w.setCell ⟨b, j, none⟩ v).heap[b]? = some (.cells (cs.setIfInBounds j v) T fr) := by
  simp [World.setCell, Array.getElem?_modify, h]
theorem cell_at {w : World} {b : Nat} {cs : Array Value} {T : TypeId} {fr : Nat × Nat} (hb : w.heap[b]? = some (.cells cs T fr)) (j : Nat) {v : Value} (hv : cs[j]? = some v) : w.cell? ⟨b, j, none⟩ = some v := by
  simp [World.cell?, hb, hv]
theorem free_at {w : World} {b : Nat} {cs : Array Value} {T : TypeId} (hb : w.heap[b]? = some (.cells cs T (0, 0))) (j : Nat) : w.frozen? ⟨b, j, none⟩ = false := by
  simp [World.frozen?, hb]
def BuAt (T B b : Nat) (bs : List UInt8) (w : World) : Prop :=
  ∃ p v, (p = Value.pointer none ∨ p = Value.pointer (some ⟨b, 0, none⟩)) ∧ w.heap[b]? = some (.cells #[p, v] T (0, 0)) ∧
    w.ownsRowF B 5 1 v bs.length (Lib.byteCells bs) ∧ v.ownBlock ≠ some b
theorem BuAt.lt {T B b : Nat} {bs : List UInt8} {w : World} (h : BuAt T B b bs w) : b < w.heap.size := by
  obtain ⟨_, _, _, h, _⟩ := h; exact lt_of_heap h
theorem BuAt.new (T B : Nat) (w : World) : BuAt T B w.heap.size [] (w.alloc (.cells #[.pointer none, .slice none 0 0] T)) :=
  ⟨_, _, .inl rfl, heap_alloc_new' w _, World.ownsRowF_nil _ _ _ _, by simp [Value.ownBlock]⟩
theorem BuAt.keeps {T B b : Nat} {bs : List UInt8} {w w' : World} {S : Nat → Prop} (h : BuAt T B b bs w) (k : Keeps S w w') (h1 : ¬ S b) (h2 : ∀ i, B ≤ i → i < w.heap.size → ¬ S i) : BuAt T B b bs w' := by
  obtain ⟨p, v, hp, hb, hown, hne⟩ := h
  refine ⟨p, v, hp, k.heap hb h1, ⟨hown.1, ?_⟩, hne⟩
  rcases hown.2 with hn | ⟨g, cap, cur, fz, rfl, hbg, hg, rest⟩
  · exact .inl hn
  · exact .inr ⟨g, cap, cur, fz, rfl, hbg, k.heap hg (h2 g hbg (lt_of_heap hg)), rest⟩
theorem BuAt.adds {T B b : Nat} {bs : List UInt8} {w w' : World} (h : BuAt T B b bs w) (k : Adds w w') : BuAt T B b bs w' := h.keeps k id (fun _ _ _ x => x)
theorem BuAt.alloc {T B b : Nat} {bs : List UInt8} {w : World} (h : BuAt T B b bs w) (o : Obj) : BuAt T B b bs (w.alloc o) := h.adds ((Keeps.refl _ w).alloc o)
theorem BuAt.drew {T B b : Nat} {bs : List UInt8} {w : World} (h : BuAt T B b bs w) : BuAt T B b bs w.drew := h
theorem ret_bool {a b : Bool} (h : a = b) : Ending.returned (.bool a) = .returned (.bool b) := by rw [h]
theorem str_cut (l : List UInt8) (a b : Nat) : ((⟨l.toArray⟩ : ByteArray).extract a b) = ⟨((l.take b).drop a).toArray⟩ := by
  apply ByteArray.ext
  apply Array.ext'
  rw [Lib.extract_data, List.drop_take]
theorem str_app (a b : List UInt8) : (⟨a.toArray⟩ : ByteArray) ++ ⟨b.toArray⟩ = ⟨(a ++ b).toArray⟩ := by
  rw [ByteArray.mk_append_mk]
end Go.Proofs.YtnkkbeafcfjkmaaGreatDoor
namespace Go.Proofs.YtnkkbeafcfjkmaaGreatDoor
open Go.RowKit
set_option linter.unusedVariables false
set_option linter.unusedSimpArgs false
abbrev Fr := List (Nat × Value)
def look : Fr → Nat → Option Value
  | [], _ => none
  | p :: l, t => bif Nat.beq p.1 t then some p.2 else look l t
def ev (fr : Fr) : Operand → Option Value
  | .tmp t => look fr t
  | .const v => some v
  | .global g => some (.pointer (some ⟨g, 0, none⟩))
  | .func f => some (.func (.func f) #[] #[])
def evf (fr : Fr) (x : Operand) : Value := (ev fr x).getD undef
def evs (fr : Fr) : List Operand → Option (List Value)
  | [] => some []
  | x :: l => match ev fr x, evs fr l with
    | some v, some vs => some (v :: vs)
    | _, _ => none
structure Md where
  n : Nat
  R : Option Nat
  D : List Deferred
abbrev fz (R : Option Nat) : Fence := { Fence.wide with round := R }
structure FrOk (n : Md) (fr : Fr) (a : Act) : Prop where
  defers : a.defers = n.D
  size : a.tmps.size = n.n
  val : ∀ t v, look fr t = some v → a.tmps[t]? = some v
theorem FrOk.put {n : Md} {d : Nat} {fr : Fr} {a : Act} (h : FrOk n fr a) (hd : Nat.blt d n.n = true) (v : Value) : FrOk n ((d, v) :: fr) (a.put (some d) v) := by
  have hd' : d < n.n := by simpa [Nat.blt_eq] using hd
  refine ⟨h.defers, by simpa [Act.put] using h.size, fun t u hu => ?_⟩
  simp only [look] at hu
  by_cases e : d = t
  · subst e
    simp only [Nat.beq_eq_true_eq, BEq.rfl, Nat.beq_refl, cond_true, Option.some.injEq] at hu
    subst hu
    simp [Act.put, h.size, hd']
  · have : Nat.beq d t = false := by
      cases hb : Nat.beq d t with
      | false => rfl
      | true => exact absurd (Nat.eq_of_beq_eq_true hb) e
    rw [this] at hu
    simp only [cond_false] at hu
    have := h.val t u hu
    simp [Act.put, Array.getElem?_setIfInBounds, e, this]
theorem FrOk.none {n : Md} {fr : Fr} {a : Act} (h : FrOk n fr a) (v : Value) : FrOk n fr (a.put none v) := h
theorem FrOk.eval {n : Md} {fr : Fr} {a : Act} (h : FrOk n fr a) {x : Operand} {v : Value} (he : ev fr x = some v) : a.eval x = v := by
  cases x with
  | tmp t => have := h.val t v he; simp [Act.eval, Array.getD_eq_getD_getElem?, this]
  | const u => simpa [ev, Act.eval] using he
  | global g => simpa [ev, Act.eval] using he
  | func f => simpa [ev, Act.eval] using he
theorem FrOk.evs {n : Md} {fr : Fr} {a : Act} (h : FrOk n fr a) : ∀ {xs : List Operand} {vs : List Value}, evs fr xs = some vs → xs.map a.eval = vs
  | [], vs, he => by simpa [Go.Proofs.YtnkkbeafcfjkmaaGreatDoor.evs] using he
  | x :: l, vs, he => by
    simp only [Go.Proofs.YtnkkbeafcfjkmaaGreatDoor.evs] at he
    cases h1 : ev fr x with
    | none => simp [h1] at he
    | some v =>
      cases h2 : Go.Proofs.YtnkkbeafcfjkmaaGreatDoor.evs fr l with
      | none => simp [h1, h2] at he
      | some us =>
        simp only [h1, h2, Option.some.injEq] at he
        subst he
        simp [h.eval h1, h.evs h2]
def Sub : Fr → Fr → Prop
  | [], _ => True
  | p :: l, fr => look fr p.1 = some p.2 ∧ Sub l fr
theorem Sub.look {F fr : Fr} (h : Sub F fr) {t : Nat} {v : Value} (hl : look F t = some v) : look fr t = some v := by
  induction F with
  | nil => simp [Go.Proofs.YtnkkbeafcfjkmaaGreatDoor.look] at hl
  | cons p l ih =>
    simp only [Go.Proofs.YtnkkbeafcfjkmaaGreatDoor.look] at hl
    cases hb : Nat.beq p.1 t with
    | true =>
      rw [hb] at hl
      simp only [cond_true, Option.some.injEq] at hl
      rw [← Nat.eq_of_beq_eq_true hb, ← hl]
      exact h.1
    | false => rw [hb] at hl; exact ih h.2 hl
theorem FrOk.sub {n : Md} {F fr : Fr} {a : Act} (h : FrOk n fr a) (hs : Sub F fr) : FrOk n F a := ⟨h.defers, h.size, fun t v hl => h.val t v (hs.look hl)⟩
def notSel : Op → Bool
  | .select _ _ => false
  | .defer _ => false
  | _ => true
def okOps (fr : Fr) (o : Oper) : Bool := notSel o.op && o.op.operands.toList.all fun x => (ev fr x).isSome
theorem FrOk.exec {n : Md} {fr : Fr} {a : Act} (h : FrOk n fr a) {o : Oper} (ho : okOps fr o = true) : execOp a.eval o = execOp (evf fr) o := by
  simp only [okOps, Bool.and_eq_true, List.all_eq_true] at ho
  refine execOp_congr o (fun cs b e => by rw [e] at ho; simp [notSel] at ho) (fun x hx => ?_)
  have := ho.2 x (by simpa using hx)
  obtain ⟨v, hv⟩ := Option.isSome_iff_exists.1 this
  rw [h.eval hv, evf, hv]
  rfl
def want (ops : Array Oper) (fr : Fr) (o : Oper) : Option Bool :=
  match o.guard with
  | none => some true
  | some (j, b) => match (ops[j]?).bind (·.dst) with
    | some t => match look fr t with
      | some (.bool c) => some (c == b)
      | some (.tuple _) => some false
      | _ => none
    | none => some false
theorem FrOk.want {n : Md} {fr : Fr} {a : Act} (h : FrOk n fr a) {ops : Array Oper} {o : Oper} {c : Bool} (hw : want ops fr o = some c) : Region.wanted o (yielded ops a.tmps) = c := by
  unfold Go.Proofs.YtnkkbeafcfjkmaaGreatDoor.want at hw
  unfold Region.wanted
  cases hg : o.guard with
  | none => simp only [hg, Option.some.injEq] at hw; simp [← hw]
  | some p =>
    obtain ⟨j, b⟩ := p
    simp only [hg] at hw
    simp only [yielded]
    cases ht : (ops[j]?).bind (·.dst) with
    | none => simp only [ht, Option.some.injEq] at hw; subst hw; simp
    | some t =>
      simp only [ht] at hw
      cases hl : look fr t with
      | none => simp [hl] at hw
      | some v =>
        have hv := h.val t v hl
        cases v <;> simp only [hl, reduceCtorEq, Option.some.injEq] at hw
        all_goals (subst hw; simp [hv])
theorem str_eql (a b : List UInt8) : Value.bool (ByteArray.toList ⟨a.toArray⟩ == ByteArray.toList ⟨b.toArray⟩) = .bool (decide (a = b)) := by
  rw [ByteArray.toList_eq, ByteArray.toList_eq]
  congr 1
  rw [Bool.eq_iff_iff]; simp
theorem str_neq (a b : List UInt8) : Value.bool (!(ByteArray.toList ⟨a.toArray⟩ == ByteArray.toList ⟨b.toArray⟩)) = .bool (!(decide (a = b))) := by
  rw [ByteArray.toList_eq, ByteArray.toList_eq]
  congr 2
  rw [Bool.eq_iff_iff]; simp
theorem cat_run {P : Program} {w : World} {T : TypeId} {a b : List UInt8} (h : a.length + b.length ≤ 9223372036854775807) : (binOp .add T (.string ⟨a.toArray⟩) (.string ⟨b.toArray⟩)).run P w = .ok (.string ⟨(a ++ b).toArray⟩) w := by
  have h1 : ¬ ((((⟨a.toArray⟩ : ByteArray).size + (⟨b.toArray⟩ : ByteArray).size : Nat) : Int) > IntKind.i64.max) := by
    have e1 : (⟨a.toArray⟩ : ByteArray).size = a.length := rfl
    have e2 : (⟨b.toArray⟩ : ByteArray).size = b.length := rfl
    rw [e1, e2]
    have : IntKind.i64.max = 9223372036854775807 := by decide
    omega
  simp only [binOp, Op.stringOp, if_neg h1, Sem.run_pure, str_app]
theorem bsplit {X : Prop} (c : Bool) (h1 : c = true → X) (h2 : c = false → X) : X := match c, h1, h2 with | true, h1, _ => h1 rfl | false, _, h2 => h2 rfl
section
variable {P : Program} {ops : Array Oper} {n : Md} {Q : Exit → Act → World → Prop} {rest : List Oper} {fr : Fr} {w : World}
theorem calls_fz {R0 : Option Nat} {f : FuncId} {args : Array Value} {R : Ending → World → Prop} {m : Nat} (h : Calls P f args w R) : CallsIn (fz R0) m P f args w R := (callsIn_wide (n := m)).2 h
theorem rows_fz {R0 : Option Nat} {row : String} {args : Array Value} {R : Value → World → Prop} {m : Nat} (h : Rows P row args w R) : RowsIn (fz R0) m P row args w R := fun c cs _ =>
  let ⟨v, w', r, s⟩ := h c cs
  ⟨v, w', r, stepsIn_wide.2 s⟩
theorem okOps_nd {o : Oper} (h : okOps fr o = true) : notSel o.op = true := by
  simp only [okOps, Bool.and_eq_true] at h; exact h.1
theorem opLift {R0 : Option Nat} {o : Oper} {a : Act} {K : Act → World → Prop} (nd : notSel o.op = true) (h : o.wp P a w K Q) : o.wpIn (fz R0) 0 P a w K Q := by
  unfold Oper.wp at h
  refine ⟨fun _ _ => trivial, ?_⟩
  rw [Oper.semAt_eq _ _ _ (fun c e => by rw [e] at nd; simp [notSel] at nd)]
  generalize (execOp a.eval o).run P w = r at *
  cases r with
  | ok x w' =>
    cases x <;> simp only [Oper.upon, Oper.uponIn] at h ⊢
    case enter f args => exact ⟨fun h => by simp [Fence.wide] at h, calls_fz (Calls.mono h fun e w'' he => by cases e <;> exact he)⟩
    case row r args => exact ⟨fun h => by simp [Fence.wide] at h, rows_fz h⟩
    all_goals exact h
  | halt x w' => cases x <;> simp only [Oper.upon, Oper.uponIn] at h ⊢ <;> exact h
def WL (P : Program) (ops : Array Oper) (n : Md) (Q : Exit → Act → World → Prop) (rest : List Oper) (fr : Fr) (w : World) : Prop := ∀ a, FrOk n fr a → wpListIn (fz n.R) 0 P ops Q rest a w
def WC (P : Program) (n : Md) (Q : Exit → Act → World → Prop) (c : Code) (fr : Fr) (w : World) : Prop := ∀ a, FrOk n fr a → c.wpIn (fz n.R) 0 P Q a w
def WX (n : Md) (Q : Exit → Act → World → Prop) (e : Exit) (fr : Fr) (w : World) : Prop := ∀ a, FrOk n fr a → Q e a w
theorem WL.nil (h : WX n Q .normal fr w) : WL P ops n Q [] fr w := fun a ha => wpListIn_nil (h a ha)
theorem WL.wanted {o : Oper} (hw : want ops fr o = some true) (h : ∀ a, FrOk n fr a → ∀ K : Act → World → Prop, (∀ a w, wpListIn (fz n.R) 0 P ops Q rest a w → K a w) → o.wp P a w K Q) (nd : notSel o.op = true := by first | rfl | exact okOps_nd (by assumption)) : WL P ops n Q (o :: rest) fr w := by
  intro a ha
  refine wpListIn_step fun K hK => ?_
  rw [ha.want hw, if_pos rfl]
  exact opLift nd (h a ha K hK)
theorem WL.skip {o : Oper} {d : Nat} (hw : want ops fr o = some false := by kernel_rfl) (hd : o.dst = some d := by kernel_rfl) (hn : Nat.blt d n.n = true := by kernel_rfl) (k : WL P ops n Q rest ((d, undef) :: fr) w) : WL P ops n Q (o :: rest) fr w := by
  intro a ha
  refine wpListIn_step fun K hK => ?_
  rw [ha.want hw, if_neg (by decide), hd]
  exact ⟨fun _ _ => trivial, hK _ _ (k _ (ha.put hn _))⟩
theorem WL.opW {o : Oper} {w' : World} {d : Nat} (v : Value) (hw : want ops fr o = some true) (hs : okOps fr o = true) (hr : (execOp (evf fr) o).run P w = .ok (.value v) w') (hd : o.dst = some d) (hn : Nat.blt d n.n = true)
    (k : WL P ops n Q rest ((d, v) :: fr) w') : WL P ops n Q (o :: rest) fr w :=
  WL.wanted hw fun a ha K hK => by
    unfold Oper.wp
    rw [ha.exec hs, hr, Oper.upon_value, hd]
    exact hK _ _ (k _ (ha.put hn _))
theorem WL.op {o : Oper} {d : Nat} (v : Value) (hw : want ops fr o = some true := by kernel_rfl) (hs : okOps fr o = true := by kernel_rfl) (hr : (execOp (evf fr) o).run P w = .ok (.value v) w := by kernel_rfl) (hd : o.dst = some d := by kernel_rfl) (hn : Nat.blt d n.n = true := by kernel_rfl)
    (k : WL P ops n Q rest ((d, v) :: fr) w) : WL P ops n Q (o :: rest) fr w := WL.opW v hw hs hr hd hn k
theorem WL.opE {o : Oper} {d : Nat} (v0 : Value) {v : Value} (he : v0 = v := by kernel_rfl) (hw : want ops fr o = some true := by kernel_rfl) (hs : okOps fr o = true := by kernel_rfl) (hr : (execOp (evf fr) o).run P w = .ok (.value v0) w := by kernel_rfl) (hd : o.dst = some d := by kernel_rfl) (hn : Nat.blt d n.n = true := by kernel_rfl)
    (k : WL P ops n Q rest ((d, v) :: fr) w) : WL P ops n Q (o :: rest) fr w := WL.op v hw hs (he ▸ hr) hd hn k
theorem WL.new {o : Oper} {d : Nat} {T : TypeId} (cs : Array Value) (hw : want ops fr o = some true := by kernel_rfl) (hs : okOps fr o = true := by kernel_rfl) (hd : o.dst = some d := by kernel_rfl) (hn : Nat.blt d n.n = true := by kernel_rfl)
    (hr : (execOp (evf fr) o).run P w = .ok (.value (.pointer (some ⟨w.heap.size, 0, none⟩))) (w.alloc (.cells cs T)) := by kernel_rfl)
    (k : ∀ (b : Nat) (w' : World), w.heap.size ≤ b → w'.heap[b]? = some (.cells cs T (0, 0)) → Adds w w' → WL P ops n Q rest ((d, .pointer (some ⟨b, 0, none⟩)) :: fr) w') : WL P ops n Q (o :: rest) fr w :=
  WL.opW _ hw hs hr hd hn (k _ _ (Nat.le_refl _) (heap_alloc_new' w _) ((Keeps.refl _ w).alloc _))
theorem WL.bin {B : BinOp} {T T2 : TypeId} {x y : Operand} {d : Nat} {vx vy v : Value} {ty : TypeId} {ps : String} {af : Array Edge} {g : Option (Nat × Bool)} (hb : (binOp B T vx vy).run P w = .ok v w)
    (hg : (eqGuard B T x y vx vy).run P w = .ok () w := by kernel_rfl) (hw : want ops fr ⟨some d, .binOp B T x y T2, ty, ps, af, g⟩ = some true := by kernel_rfl) (hx : ev fr x = some vx := by kernel_rfl) (hy : ev fr y = some vy := by kernel_rfl) (hn : Nat.blt d n.n = true := by kernel_rfl)
    (k : WL P ops n Q rest ((d, v) :: fr) w) : WL P ops n Q (⟨some d, .binOp B T x y T2, ty, ps, af, g⟩ :: rest) fr w :=
  WL.wanted hw fun a ha K hK => by
    unfold Oper.wp
    simp only [execOp, ha.eval hx, ha.eval hy, Sem.run_bind, hg, Sem.run_pure, Result.andThen_ok, hb, Oper.upon_value]
    exact hK _ _ (k _ (ha.put hn _))
def scT (P : Program) (T : TypeId) : Bool :=
  match P.underlying T with
  | some (.struct _) => false
  | some (.array _ _) => false
  | some _ => true
  | none => false
def agT (P : Program) (T : TypeId) : Option Nat :=
  match P.underlying T with
  | some (.struct _) => (P.info? T).map (·.size)
  | some (.array _ _) => (P.info? T).map (·.size)
  | _ => none
theorem run_isAgg_sc {T : TypeId} (h : scT P T = true) : (isAgg T).run P w = .ok false w := by
  unfold scT at h
  cases hu : P.underlying T with
  | none => simp [hu] at h
  | some d => cases d <;> simp [hu] at h <;> simp [isAgg, run_underlying hu] <;> (try rfl)
theorem run_isAgg_ag {T : TypeId} {m : Nat} (h : agT P T = some m) : (isAgg T).run P w = .ok true w ∧ (sizeOf T).run P w = .ok m w := by
  unfold agT at h
  cases hu : P.underlying T with
  | none => simp [hu] at h
  | some d =>
    cases d <;> simp only [hu, reduceCtorEq] at h
    all_goals
      obtain ⟨i, hi, hs⟩ := Option.map_eq_some_iff.1 h
      exact ⟨by simp [isAgg, run_underlying hu], by simp [sizeOf, typeInfo, hi, hs]⟩
theorem ld1 {T E : TypeId} {b i : Nat} {cs : Array Value} {fz : Nat × Nat} {v : Value} (hb : w.heap[b]? = some (.cells cs E fz)) (hT : scT P T = true := by kernel_rfl) (hv : cs[i]? = some v := by kernel_rfl) : (loadVar T ⟨b, i, none⟩).run P w = .ok v w := by
  have hc : w.cell? ⟨b, i, none⟩ = some v := cell_at hb i hv
  unfold loadVar
  simp only [Sem.run_bind, run_isAgg_sc hT, Result.andThen_ok]
  simp [go_sem, hc]
theorem run_loadCellsFrom {b i : Nat} {cs : Array Value} {E : TypeId} {fz : Nat × Nat} (hb : w.heap[b]? = some (.cells cs E fz)) : ∀ (m j : Nat) (acc : Array Value), i + j + m ≤ cs.size →
    (loadCellsFrom ⟨b, i, none⟩ j m acc).run P w = .ok (acc ++ ((cs.toList.drop (i + j)).take m).toArray) w
  | 0, j, acc, _ => by simp [loadCellsFrom]
  | m + 1, j, acc, h => by
    have hlt : i + j < cs.size := by omega
    have ha : (⟨b, i, none⟩ : Addr).add j = ⟨b, i + j, none⟩ := by unfold Addr.add; split <;> simp_all
    have hc : w.cell? ⟨b, i + j, none⟩ = some cs[i + j] := cell_at hb (i + j) (by simp [hlt])
    have hd : (cs.toList.drop (i + j)) = cs[i + j] :: cs.toList.drop (i + j + 1) := by
      rw [List.drop_eq_getElem_cons (by simpa using hlt)]; simp
    have ih := run_loadCellsFrom (i := i) hb m (j + 1) (acc.push cs[i + j]) (by omega)
    have h1 : (load ⟨b, i + j, none⟩).run P w = .ok cs[i + j] w := by simp [load, Sem.run, hc]
    simp only [loadCellsFrom, ha, Sem.run_bind, h1, Result.andThen_ok, ih, hd, List.take_succ_cons]
    congr 1
    rw [show i + (j + 1) = i + j + 1 by omega]
    apply Array.ext'
    simp
theorem ldN {T E : TypeId} {b i m : Nat} {cs : Array Value} {fz : Nat × Nat} {l : List Value} (hb : w.heap[b]? = some (.cells cs E fz)) (hT : agT P T = some m := by kernel_rfl) (hk : Nat.ble (i + m) cs.size = true := by kernel_rfl) (hl : (cs.toList.drop i).take m = l := by kernel_rfl) : (loadVar T ⟨b, i, none⟩).run P w = .ok (.agg l.toArray) w := by
  obtain ⟨h1, h2⟩ := run_isAgg_ag (w := w) hT
  have h3 := run_loadCellsFrom (P := P) hb m 0 #[] (i := i) (by have := Nat.le_of_ble_eq_true hk; omega)
  unfold loadVar
  simp only [Sem.run_bind, h1, Result.andThen_ok, if_true, h2, loadCells, h3]
  simp [hl]
theorem WL.load {T : TypeId} {x : Operand} {d : Nat} {p : Addr} {v : Value} {ty : TypeId} {ps : String} {af : Array Edge} {g : Option (Nat × Bool)} (hl : (loadVar T p).run P w = .ok v w)
    (hw : want ops fr ⟨some d, .load T x, ty, ps, af, g⟩ = some true := by kernel_rfl) (he : ev fr x = some (.pointer (some p)) := by kernel_rfl) (hn : Nat.blt d n.n = true := by kernel_rfl) (k : WL P ops n Q rest ((d, v) :: fr) w) : WL P ops n Q (⟨some d, .load T x, ty, ps, af, g⟩ :: rest) fr w :=
  WL.wanted hw fun a ha K hK => by
    unfold Oper.wp
    simp only [execOp, ha.eval he, Instr.loadAt, Instr.sureAddr, Sem.run_bind, Sem.run_pure, Result.andThen_ok, hl, Oper.upon_value]
    exact hK _ _ (k _ (ha.put hn _))
def oneC : Value → Bool
  | .agg _ => false
  | .tuple _ => false
  | _ => true
def repl (cs : Array Value) (i : Nat) (l : List Value) : Array Value := (cs.toList.take i ++ (l ++ cs.toList.drop (i + l.length))).toArray
theorem Keeps.one {w w' : World} {b : Nat} (os : w'.os = w.os) (tape : w'.tape = w.tape) (out : w'.output = w.output) (size : w.heap.size ≤ w'.heap.size) (h : ∀ k, k < w.heap.size → k ≠ b → w'.heap[k]? = w.heap[k]?) : Keeps (fun k => k = b) w w' := ⟨os, tape, out, size, h⟩
theorem run_store1 {b i : Nat} {cs : Array Value} {E : TypeId} {v : Value} (hb : w.heap[b]? = some (.cells cs E (0, 0))) (hi : i < cs.size) (hv : oneC v = true) : (store ⟨b, i, none⟩ v).run P w = .ok () (w.setCell ⟨b, i, none⟩ v) := by
  have hc : w.cell? ⟨b, i, none⟩ = some cs[i] := cell_at hb i (by simp [hi])
  have hf := free_at hb i
  cases v <;> simp [oneC] at hv <;> simp [store, Sem.run, hc, hf]
theorem run_storeCells {b i : Nat} {E : TypeId} : ∀ (l : List Value) (j : Nat) (w : World) (cs : Array Value), w.heap[b]? = some (.cells cs E (0, 0)) → i + j + l.length ≤ cs.size → l.all oneC = true →
    ∃ w', (storeCells ⟨b, i, none⟩ l j).run P w = .ok () w' ∧ w'.heap[b]? = some (.cells (repl cs (i + j) l) E (0, 0)) ∧ Keeps (fun k => k = b) w w'
  | [], j, w, cs, hb, _, _ => ⟨w, by simp [storeCells], by simpa [repl] using hb, Keeps.refl _ _⟩
  | v :: l, j, w, cs, hb, hl, hv => by
    simp only [List.all_cons, Bool.and_eq_true] at hv
    simp only [List.length_cons] at hl
    have ha : (⟨b, i, none⟩ : Addr).add j = ⟨b, i + j, none⟩ := by unfold Addr.add; split <;> simp_all
    have h1 := run_store1 (P := P) (i := i + j) hb (by omega) hv.1
    have hb' := heap_set_same hb (i + j) v
    obtain ⟨w', hr, hb2, hk⟩ := run_storeCells (i := i) l (j + 1) (w.setCell ⟨b, i + j, none⟩ v) _ hb' (by simp; omega) hv.2
    refine ⟨w', ?_, ?_, ((Keeps.refl (fun k => k = b) w).setCell _ _ (fun _ => rfl)).trans hk⟩
    · simp only [storeCells, ha, Sem.run_bind, h1, Result.andThen_ok, hr]
    · rw [hb2]
      congr 2
      unfold repl
      apply Array.ext'
      have hlt : i + j < cs.toList.length := by simp; omega
      simp only [Array.toList_setIfInBounds, List.length_cons]
      rw [show i + (j + 1) = i + j + 1 by omega, List.take_set, List.drop_set, if_pos (by omega), List.take_succ_eq_append_getElem hlt, List.set_append]
      simp only [List.length_take]
      rw [if_neg (by omega)]
      have hm : min (i + j) cs.size = i + j := Nat.min_eq_left (by simpa using Nat.le_of_lt hlt)
      simp [hm, Nat.add_assoc, Nat.add_comm 1, Nat.add_left_comm]
theorem WL.store {T E : TypeId} {x y : Operand} {b i : Nat} {cs cs' : Array Value} {v : Value} {ty : TypeId} {ps : String} {af : Array Edge} {g : Option (Nat × Bool)}
    (hb : w.heap[b]? = some (.cells cs E (0, 0)))
    (hw : want ops fr ⟨none, .store T x y, ty, ps, af, g⟩ = some true := by kernel_rfl) (he : ev fr x = some (.pointer (some ⟨b, i, none⟩)) := by kernel_rfl) (hv : ev fr y = some v := by kernel_rfl)
    (hT : (P.info? T).map (·.size) = some v.cells.size := by kernel_rfl) (hlen : Nat.ble (i + v.cells.size) cs.size = true := by kernel_rfl) (ho : v.cells.toList.all oneC = true := by kernel_rfl) (hcs : repl cs i v.cells.toList = cs' := by kernel_rfl)
    (k : ∀ w' : World, w'.heap[b]? = some (.cells cs' E (0, 0)) → Keeps (fun k => k = b) w w' → WL P ops n Q rest fr w') : WL P ops n Q (⟨none, .store T x y, ty, ps, af, g⟩ :: rest) fr w :=
  WL.wanted hw fun a ha K hK => by
    obtain ⟨w', hr, hb', hk⟩ := run_storeCells (P := P) (i := i) v.cells.toList 0 w cs hb (by simpa using Nat.le_of_ble_eq_true hlen) ho
    obtain ⟨j, hj, hjs⟩ := Option.map_eq_some_iff.1 hT
    unfold Oper.wp
    have hs : (storeVar T ⟨b, i, none⟩ v).run P w = .ok () w' := by
      unfold storeVar
      simp [sizeOf, typeInfo, hj, hjs, hr]
    simp only [execOp, ha.eval he, ha.eval hv, Instr.storeAt, Instr.sureAddr, Sem.run_bind, Sem.run_pure, Result.andThen_ok, hs, Oper.upon_skip]
    exact hK _ _ (k w' (hcs ▸ (by simpa using hb')) hk _ ha)
def CF (P : Program) (f : FuncId) : Prop := ∀ (args : Array Value) (w : World), (callFunc f args).run P w = .ok (.enter f args) w
theorem WL.call {f : FuncId} {xs : Array Operand} {ats : Array TypeId} {args : Array Value} {R : Ending → World → Prop} {d : Nat} {ty : TypeId} {ps : String} {af : Array Edge} {g : Option (Nat × Bool)}
    (hf : CF P f) (hc : Calls P f args w R) (hw : want ops fr ⟨some d, .call ⟨.value (.func f), xs, ats⟩, ty, ps, af, g⟩ = some true) (he : evs fr xs.toList = some args.toList) (hn : Nat.blt d n.n = true)
    (k : ∀ e w', R e w' → ∃ v, e = .returned v ∧ WL P ops n Q rest ((d, v) :: fr) w') : WL P ops n Q (⟨some d, .call ⟨.value (.func f), xs, ats⟩, ty, ps, af, g⟩ :: rest) fr w :=
  WL.wanted hw fun a ha K hK => by
    have hargs : xs.map a.eval = args := by
      apply Array.ext'
      simpa using ha.evs he
    unfold Oper.wp
    simp only [execOp, resolve, Act.eval, Deferred.ofValue, hargs, Sem.run_bind, Sem.run_pure, Result.andThen_ok, invoke, Array.empty_append, Array.append_empty, hf args w, Oper.upon_enter]
    refine hc.mono fun e w' hR => ?_
    obtain ⟨v, rfl, h⟩ := k e w' hR
    exact hK _ _ (h _ (ha.put hn _))
theorem WL.callG {f : FuncId} {o : Oper} {args : Array Value} {R : Ending → World → Prop} {d : Nat} (hc : Calls P f args w R) (hw : want ops fr o = some true := by kernel_rfl) (hs : okOps fr o = true := by kernel_rfl) (hr : (execOp (evf fr) o).run P w = .ok (.enter f args) w := by kernel_rfl) (hd : o.dst = some d := by kernel_rfl) (hn : Nat.blt d n.n = true := by kernel_rfl)
    (k : ∀ e w', R e w' → ∃ v, e = .returned v ∧ WL P ops n Q rest ((d, v) :: fr) w') : WL P ops n Q (o :: rest) fr w :=
  WL.wanted hw fun a ha K hK => by
    unfold Oper.wp
    rw [ha.exec hs, hr, Oper.upon_enter, hd]
    refine hc.mono fun e w' hR => ?_
    obtain ⟨v, rfl, h⟩ := k e w' hR
    exact hK _ _ (h _ (ha.put hn _))
theorem FrOk.rw {t : Nat} {u v : Value} (he : look fr t = some u) (hu : u = v) {a : Act} (ha : FrOk n fr a) : FrOk n ((t, v) :: fr) a :=
  ⟨ha.defers, ha.size, fun s x hx => by
    simp only [look] at hx
    cases hb : Nat.beq t s with
    | true =>
      rw [hb] at hx
      simp only [cond_true, Option.some.injEq] at hx
      rw [← Nat.eq_of_beq_eq_true hb, ← hx, ← hu]
      exact ha.val t u he
    | false => rw [hb] at hx; exact ha.val s x hx⟩
theorem WL.rw {t : Nat} {u v : Value} (hu : u = v) (he : look fr t = some u := by kernel_rfl) (k : WL P ops n Q rest ((t, v) :: fr) w) : WL P ops n Q rest fr w := fun a ha => k a (ha.rw he hu)
end
section
variable {P : Program} {n : Md} {Q : Exit → Act → World → Prop} {fr : Fr} {w : World}
theorem WC.region {id : Nat} {l : List Oper} (h : WL P l.toArray n Q l fr w) : WC P n Q (.region id l.toArray false) fr w := fun a ha => wpIn_region_lit (h a ha)
theorem WC.seq {x y : Code} (h : WC P n (Exit.then (y.wpIn (fz n.R) 0 P Q) Q) x fr w) : WC P n Q (.seq x y) fr w := fun a ha => wpIn_seq (h a ha)
theorem WC.skip (h : WX n Q .normal fr w) : WC P n Q .skip fr w := fun a ha => wpIn_skip (h a ha)
theorem WC.label {l : Nat} (h : WX n Q .normal fr w) : WC P n Q (.label l) fr w := fun a ha => wpIn_label (h a ha)
theorem WC.ret (h : WX n Q .ret fr w) : WC P n Q .ret fr w := fun a ha => wpIn_ret (h a ha)
theorem WC.exit {id : Nat} (h : WX n Q (.exit id) fr w) : WC P n Q (.exit id) fr w := fun a ha => wpIn_exit (h a ha)
theorem WC.block {id : Nat} {c : Code} (h : WC P n (Exit.inBlock id Q) c fr w) : WC P n Q (.block id c) fr w := fun a ha => wpIn_block (h a ha)
theorem WC.cond {x : Operand} {c1 c2 : Code} {b : Bool} (he : ev fr x = some (.bool b) := by kernel_rfl) (ht : b = true → WC P n Q c1 fr w) (hf : b = false → WC P n Q c2 fr w := by kernel_rfl) : WC P n Q (.cond x c1 c2) fr w :=
  fun a ha => wpIn_cond_split (ha.eval he) (fun h => ht h a ha) (fun h => hf h a ha)
theorem WC.condT {x : Operand} {c1 c2 : Code} (he : ev fr x = some (.bool true) := by kernel_rfl) (k : WC P n Q c1 fr w) : WC P n Q (.cond x c1 c2) fr w :=
  fun a ha => wpIn_cond_true (ha.eval he) (k a ha)
theorem WC.condF {x : Operand} {c1 c2 : Code} (he : ev fr x = some (.bool false) := by kernel_rfl) (k : WC P n Q c2 fr w) : WC P n Q (.cond x c1 c2) fr w :=
  fun a ha => wpIn_cond_false (ha.eval he) (k a ha)
theorem WC.sub {F : Fr} {c : Code} (hs : Sub F fr) (h : WC P n Q c F w) : WC P n Q c fr w := fun a ha => h a (ha.sub hs)
theorem WC.rw {t : Nat} {u v : Value} {c : Code} (hu : u = v) (he : look fr t = some u := by kernel_rfl) (k : WC P n Q c ((t, v) :: fr) w) : WC P n Q c fr w := fun a ha => k a (ha.rw he hu)
theorem WX.seqN {y : Code} (h : WC P n Q y fr w) : WX n (Exit.then (y.wpIn (fz n.R) 0 P Q) Q) .normal fr w := h
theorem WX.seqR {K : Act → World → Prop} (h : WX n Q .ret fr w) : WX n (Exit.then K Q) .ret fr w := h
theorem WX.seqE {K : Act → World → Prop} {id : Nat} (h : WX n Q (.exit id) fr w) : WX n (Exit.then K Q) (.exit id) fr w := h
theorem WX.blockN {id : Nat} (h : WX n Q .normal fr w) : WX n (Exit.inBlock id Q) .normal fr w := h
theorem WX.blockR {id : Nat} (h : WX n Q .ret fr w) : WX n (Exit.inBlock id Q) .ret fr w := h
theorem WX.blockE {id : Nat} (h : WX n Q .normal fr w) : WX n (Exit.inBlock id Q) (.exit id) fr w := fun a ha => by
  simp only [Exit.inBlock, ↓reduceIte]; exact h a ha
theorem WX.blockO {id i : Nat} (hi : Nat.beq i id = false) (h : WX n Q (.exit i) fr w) : WX n (Exit.inBlock id Q) (.exit i) fr w := fun a ha => by
  simp only [Exit.inBlock, Nat.ne_of_beq_eq_false hi, ↓reduceIte]; exact h a ha
theorem WX.sub {F : Fr} {e : Exit} (hs : Sub F fr) (h : WX n Q e F w) : WX n Q e fr w := fun a ha => h a (ha.sub hs)
def Round {ι : Type} (n : Md) (F : ι → Fr) (I : ι → World → Prop) (m : ι → Nat) (x : ι) : Act → World → Prop := fun a w => ∃ x', m x' < m x ∧ FrOk n (F x') a ∧ I x' w
theorem WC.loop {ι : Type} {c : Code} (F : ι → Fr) (I : ι → World → Prop) (m : ι → Nat) (x0 : ι) (hs : Sub (F x0) fr) (h0 : I x0 w)
    (round : ∀ x w, I x w → WC P n (Exit.then (Round n F I m x) Q) c (F x) w) : WC P n Q (.loop c) fr w := fun a ha =>
  wpIn_loop_ghost (fun k a w => ∃ x, m x = k ∧ FrOk n (F x) a ∧ I x w) (m x0) ⟨x0, rfl, ha.sub hs, h0⟩ (fun k a w ⟨x, hk, hf, hi⟩ =>
    wpIn_mono (round x w hi a hf) (fun e a' w' q => by
      cases e with
      | normal => obtain ⟨x', h1, h2, h3⟩ := q; exact ⟨m x', by omega, x', rfl, h2, h3⟩
      | _ => exact q))
theorem WX.round {ι : Type} {F : ι → Fr} {I : ι → World → Prop} {m : ι → Nat} {x : ι} (x' : ι) (hm : m x' < m x) (hs : Sub (F x') fr) (hi : I x' w) : WX n (Exit.then (Round n F I m x) Q) .normal fr w :=
  fun a ha => ⟨x', hm, ha.sub hs, hi⟩
def RV (P : Program) (fr : Fr) (w : World) : List ResultVar → List Value → Prop
  | [], [] => True
  | .tmp t :: rs, v :: vs => look fr t = some v ∧ RV P fr w rs vs
  | .cell a T :: rs, v :: vs => (∃ p, look fr a = some (.pointer (some p)) ∧ (loadVar T p).run P w = .ok v w) ∧ RV P fr w rs vs
  | _, _ => False
theorem RV.run {a : Act} (ha : FrOk n fr a) : ∀ {rs : List ResultVar} {vs : List Value}, RV P fr w rs vs →
    (rs.mapM (fun r => match r with | .tmp t => pure (a.tmps.getD t undef) | .cell x t => do loadVar t (← asAddr (a.tmps.getD x undef)) : ResultVar → Sem Value)).run P w = .ok vs w
  | [], [], _ => by simp
  | .tmp t :: rs, v :: vs, h => by
    have h1 := ha.val t v h.1
    have h2 := RV.run ha h.2
    simp only [List.mapM_cons, Sem.run_bind, Sem.run_pure, Result.andThen_ok, h2]
    simp [Array.getD_eq_getD_getElem?, h1]
  | .cell x T :: rs, v :: vs, h => by
    obtain ⟨⟨p, hp, hl⟩, h3⟩ := h
    have h1 := ha.val x _ hp
    have h2 := RV.run ha h3
    have h4 : (asAddr (a.tmps.getD x undef)).run P w = .ok p w := by simp [Array.getD_eq_getD_getElem?, h1, asAddr]
    simp only [List.mapM_cons, Sem.run_bind, h4, Result.andThen_ok, hl, h2, Sem.run_pure]
def tup : List Value → Value
  | [u] => u
  | vs => .tuple vs.toArray
theorem RV.results {a : Act} {fn : Func} (ha : FrOk n fr a) {rs : List ResultVar} {vs : List Value} (hf : fn.results = rs.toArray) (h : RV P fr w rs vs) (v : Value) (hv : tup vs = v) :
    (results fn a.tmps).run P w = .ok v w := by
  have h1 := RV.run (P := P) ha h
  unfold Go.results
  rw [hf]
  generalize (fun r => match r with | .tmp t => pure (a.tmps.getD t undef) | .cell x t => do loadVar t (← asAddr (a.tmps.getD x undef)) : ResultVar → Sem Value) = f at h1 ⊢
  rw [List.mapM_toArray]
  subst hv
  match vs with
  | [] => simp [h1, tup]
  | [u] => simp [h1, tup]
  | u :: u' :: us => simp [h1, tup]
theorem WX.ret {fn : Func} {R : Ending → World → Prop} {rs : List ResultVar} (vs : List Value) (v : Value) (h : RV P fr w rs vs) (hf : fn.results = rs.toArray := by rfl) (hv : tup vs = v := by rfl) (k : R (.returned v) w) (hD : n.D = [] := by rfl) : WX n (bodyPost P fn R) .ret fr w :=
  fun a ha => ⟨ha.defers.trans hD, v, RV.results ha hf h v hv, k⟩
theorem WX.end {fn : Func} {R : Ending → World → Prop} {rs : List ResultVar} (vs : List Value) (v : Value) (h : RV P fr w rs vs) (hf : fn.results = rs.toArray := by rfl) (hv : tup vs = v := by rfl) (k : R (.returned v) w) (hD : n.D = [] := by rfl) : WX n (bodyPost P fn R) .normal fr w :=
  fun a ha => ⟨ha.defers.trans hD, v, RV.results ha hf h v hv, k⟩
def fr0 : Nat → List Value → Fr
  | _, [] => []
  | i, v :: l => (i, v) :: fr0 (i + 1) l
theorem look_fr0 : ∀ (l : List Value) (i t : Nat) (v : Value), look (fr0 i l) t = some v → i ≤ t ∧ l[t - i]? = some v
  | [], _, _, _, h => by simp [fr0, look] at h
  | u :: l, i, t, v, h => by
    simp only [fr0, look] at h
    cases hb : Nat.beq i t with
    | true =>
      have e := Nat.eq_of_beq_eq_true hb
      subst e
      rw [hb] at h
      simpa using h
    | false =>
      rw [hb] at h
      have hne := Nat.ne_of_beq_eq_false hb
      obtain ⟨h1, h2⟩ := look_fr0 l (i + 1) t v h
      refine ⟨by omega, ?_⟩
      rw [show t - i = (t - (i + 1)) + 1 by omega]
      simpa using h2
theorem Calls.start {f : FuncId} {fn : Func} {c : Code} {args : Array Value} {R : Ending → World → Prop} (hf : P.funcs[f]? = some fn) (hb : fn.body = some c) (hn : Nat.ble args.size fn.ntmps = true)
    (h : WC P ⟨fn.ntmps, none, []⟩ (bodyPost P fn R) c (fr0 0 args.toList) w) : Calls P f args w R := by
  refine calls_of_wp hf hb (wpIn_wide.1 (h _ ⟨rfl, by have := Nat.le_of_ble_eq_true hn; simp; omega, fun t v ht => ?_⟩))
  obtain ⟨_, h2⟩ := look_fr0 _ _ _ _ ht
  have h3 : args[t]? = some v := by simpa using h2
  have hlt : t < args.size := (Array.getElem?_eq_some_iff.1 h3).1
  simp [Array.getElem?_append_left hlt, h3]
end
end Go.Proofs.YtnkkbeafcfjkmaaGreatDoor
namespace Go.Proofs.YtnkkbeafcfjkmaaGreatDoor
open Go.RowKit
set_option linter.unusedVariables false
set_option linter.unusedSimpArgs false
section
variable {P : Program} {ops : Array Oper} {n : Md} {Q : Exit → Act → World → Prop} {rest : List Oper} {fr : Fr} {w : World} {C : World → Prop} {Z : Act → Prop}
def WQ (P : Program) (ops : Array Oper) (n : Md) (C : World → Prop) (Z : Act → Prop) (rest : List Oper) (fr : Fr) : Prop := ∀ a, FrOk n fr a → wpQuiet P ops C Z rest a
def ZX (n : Md) (C : World → Prop) (Q : Exit → Act → World → Prop) : Act → Prop := fun a => ∀ w, C w → Q .normal a w
def ZL (P : Program) (ops : Array Oper) (R : Option Nat) (C : World → Prop) (Q : Exit → Act → World → Prop) (rest : List Oper) : Act → Prop := fun a => ∀ w, C w → wpListIn (fz R) 0 P ops Q rest a w
theorem WQ.nil (h : ∀ a, FrOk n fr a → Z a) : WQ P ops n C Z [] fr := fun a ha => wpQuiet_nil (h a ha)
theorem WQ.nilX (h : ∀ w, C w → WX n Q .normal fr w) : WQ P ops n C (ZX n C Q) [] fr := WQ.nil fun a ha w hw => h w hw a ha
theorem WQ.nilL {tl : List Oper} (h : ∀ w, C w → WL P ops n Q tl fr w) : WQ P ops n C (ZL P ops n.R C Q tl) [] fr := WQ.nil fun a ha w hw => h w hw a ha
theorem WQ.wanted {o : Oper} (hw : want ops fr o = some true) (h : ∀ a, FrOk n fr a → ∀ K : Act → Prop, (∀ a, wpQuiet P ops C Z rest a → K a) → o.quiet P a C K) : WQ P ops n C Z (o :: rest) fr := by
  intro a ha
  refine wpQuiet_step fun K hK => ?_
  rw [ha.want hw, if_pos rfl]
  exact h a ha K hK
theorem WQ.skip {o : Oper} {d : Nat} (hw : want ops fr o = some false := by kernel_rfl) (hd : o.dst = some d := by kernel_rfl) (hn : Nat.blt d n.n = true := by kernel_rfl) (k : WQ P ops n C Z rest ((d, undef) :: fr)) : WQ P ops n C Z (o :: rest) fr := by
  intro a ha
  refine wpQuiet_step fun K hK => ?_
  rw [ha.want hw, if_neg (by decide), hd]
  exact hK _ (k _ (ha.put hn _))
theorem WQ.op {o : Oper} {d : Nat} (v : Value) (hw : want ops fr o = some true := by kernel_rfl) (hs : okOps fr o = true := by kernel_rfl) (hr : ∀ w, C w → (execOp (evf fr) o).run P w = .ok (.value v) w := by intro _ _; kernel_rfl) (hd : o.dst = some d := by kernel_rfl) (hn : Nat.blt d n.n = true := by kernel_rfl)
    (k : WQ P ops n C Z rest ((d, v) :: fr)) : WQ P ops n C Z (o :: rest) fr :=
  WQ.wanted hw fun a ha K hK => ⟨v, fun w hC => by
    unfold Oper.quietAt
    rw [ha.exec hs, hr w hC]
    exact ⟨rfl, rfl⟩, by rw [hd]; exact hK _ (k _ (ha.put hn _))⟩
theorem WQ.opE {o : Oper} {d : Nat} (v0 : Value) {v : Value} (he : v0 = v := by kernel_rfl) (hw : want ops fr o = some true := by kernel_rfl) (hs : okOps fr o = true := by kernel_rfl) (hr : ∀ w, C w → (execOp (evf fr) o).run P w = .ok (.value v0) w := by intro _ _; kernel_rfl) (hd : o.dst = some d := by kernel_rfl) (hn : Nat.blt d n.n = true := by kernel_rfl)
    (k : WQ P ops n C Z rest ((d, v) :: fr)) : WQ P ops n C Z (o :: rest) fr := WQ.op v hw hs (he ▸ hr) hd hn k
theorem WQ.load {T : TypeId} {x : Operand} {d : Nat} {p : Addr} {v : Value} {ty : TypeId} {ps : String} {af : Array Edge} {g : Option (Nat × Bool)} (hl : ∀ w, C w → (loadVar T p).run P w = .ok v w)
    (hw : want ops fr ⟨some d, .load T x, ty, ps, af, g⟩ = some true := by kernel_rfl) (he : ev fr x = some (.pointer (some p)) := by kernel_rfl) (hn : Nat.blt d n.n = true := by kernel_rfl) (k : WQ P ops n C Z rest ((d, v) :: fr)) : WQ P ops n C Z (⟨some d, .load T x, ty, ps, af, g⟩ :: rest) fr :=
  WQ.wanted hw fun a ha K hK => ⟨v, fun w hC => by
    unfold Oper.quietAt
    simp only [execOp, ha.eval he, Instr.loadAt, Instr.sureAddr, Sem.run_bind, Sem.run_pure, Result.andThen_ok, hl w hC, Oper.quietUpon, and_self], hK _ (k _ (ha.put hn _))⟩
theorem WQ.bin {B : BinOp} {T T2 : TypeId} {x y : Operand} {d : Nat} {vx vy v : Value} {ty : TypeId} {ps : String} {af : Array Edge} {g : Option (Nat × Bool)} (hb : ∀ w, (binOp B T vx vy).run P w = .ok v w)
    (hg : ∀ w, (eqGuard B T x y vx vy).run P w = .ok () w := by intro _; kernel_rfl) (hw : want ops fr ⟨some d, .binOp B T x y T2, ty, ps, af, g⟩ = some true := by kernel_rfl) (hx : ev fr x = some vx := by kernel_rfl) (hy : ev fr y = some vy := by kernel_rfl) (hn : Nat.blt d n.n = true := by kernel_rfl)
    (k : WQ P ops n C Z rest ((d, v) :: fr)) : WQ P ops n C Z (⟨some d, .binOp B T x y T2, ty, ps, af, g⟩ :: rest) fr :=
  WQ.wanted hw fun a ha K hK => ⟨v, fun w hC => by
    unfold Oper.quietAt
    simp only [execOp, ha.eval hx, ha.eval hy, Sem.run_bind, hg w, Sem.run_pure, Result.andThen_ok, hb w, Oper.quietUpon, and_self], hK _ (k _ (ha.put hn _))⟩
theorem WQ.call {f : FuncId} {xs : Array Operand} {ats : Array TypeId} {args : Array Value} {v : Value} {d : Nat} {ty : TypeId} {ps : String} {af : Array Edge} {g : Option (Nat × Bool)}
    (hf : CF P f) (hc : ∀ w, C w → Calls P f args w (fun e w' => e = .returned v ∧ C w')) (hw : want ops fr ⟨some d, .call ⟨.value (.func f), xs, ats⟩, ty, ps, af, g⟩ = some true) (he : evs fr xs.toList = some args.toList) (hn : Nat.blt d n.n = true)
    (k : WQ P ops n C Z rest ((d, v) :: fr)) : WQ P ops n C Z (⟨some d, .call ⟨.value (.func f), xs, ats⟩, ty, ps, af, g⟩ :: rest) fr :=
  WQ.wanted hw fun a ha K hK => ⟨v, fun w hC => by
    have hargs : xs.map a.eval = args := by
      apply Array.ext'
      simpa using ha.evs he
    unfold Oper.quietAt
    simp only [execOp, resolve, Act.eval, Deferred.ofValue, hargs, Sem.run_bind, Sem.run_pure, Result.andThen_ok, invoke, Array.empty_append, Array.append_empty, hf args w, Oper.quietUpon, true_and]
    exact hc w hC, hK _ (k _ (ha.put hn _))⟩
theorem WQ.rw {t : Nat} {u v : Value} (hu : u = v) (he : look fr t = some u := by kernel_rfl) (k : WQ P ops n C Z rest ((t, v) :: fr)) : WQ P ops n C Z rest fr := fun a ha => k a (ha.rw he hu)
theorem WQ.callG {f : FuncId} {o : Oper} {args : Array Value} {v : Value} {d : Nat} {R : World → Ending → World → Prop} (hc : ∀ w, C w → Calls P f args w (R w)) (hR : ∀ w e w', C w → R w e w' → e = .returned v ∧ C w') (hw : want ops fr o = some true := by kernel_rfl) (hs : okOps fr o = true := by kernel_rfl) (hr : ∀ w, C w → (execOp (evf fr) o).run P w = .ok (.enter f args) w := by intro _ _; kernel_rfl) (hd : o.dst = some d := by kernel_rfl) (hn : Nat.blt d n.n = true := by kernel_rfl)
    (k : WQ P ops n C Z rest ((d, v) :: fr)) : WQ P ops n C Z (o :: rest) fr :=
  WQ.wanted hw fun a ha K hK => ⟨v, fun w hC => by
    unfold Oper.quietAt
    rw [ha.exec hs, hr w hC]
    exact ⟨rfl, (hc w hC).mono fun e w' h => hR w e w' hC h⟩, by rw [hd]; exact hK _ (k _ (ha.put hn _))⟩
theorem addsR {w0 : World} {v : Value} : ∀ (w : World) (e : Ending) (w' : World), Adds w0 w → (e = .returned v ∧ Adds w w') → e = .returned v ∧ Adds w0 w' := fun w e w' h k => ⟨k.1, h.trans k.2⟩
def Nds (ops : Array Oper) : Prop := ∀ (j : Nat) (o : Oper), ops[j]? = some o → notSel o.op = true
theorem nds_arr {l : List Oper} (h : l.all (fun o => notSel o.op) = true) : Nds l.toArray := fun j o hj => List.all_eq_true.1 h o (List.mem_of_getElem? (by simpa using hj))
theorem wpOpIn_of_q {R0 : Option Nat} {i : Nat} {a : Act} {K : Act → Prop} {K' : Act → World → Prop} {Q' : Exit → Act → World → Prop} {w : World} (nd : Nds ops) (hC : C w) (h : ∀ a w', C w' → K a → K' a w') (hh : qOp P ops C i K a) : wpOpIn (fz R0) 0 P ops Q' i K' a w := by
  unfold qOp at hh
  unfold wpOpIn
  split
  · rename_i ho; simp only [ho] at hh; exact h _ _ hC hh
  · rename_i o ho
    simp only [ho] at hh
    split
    · rename_i hw; simp only [hw, if_true] at hh; exact opLift (nd i o ho) (Oper.wp_of_quiet hC h hh)
    · rename_i hw; simp only [hw] at hh; exact ⟨fun _ _ => trivial, h _ _ hC hh⟩
theorem wpAnyIn_of_q {R0 : Option Nat} {md : Region.Mode} {Q : Act → Prop} {Q' : Exit → Act → World → Prop} (nd : Nds ops) (hQ : ∀ a w, C w → Q a → Q' .normal a w) : ∀ (fuel : Nat) (listed : Array Bool) (a : Act) (w : World), C w →
    wpAnyQ P md ops C Q fuel listed a → wpAnyIn (fz R0) 0 P md ops Q' fuel listed a w
  | 0, _, _, _, hw, h => ⟨h.1, hQ _ _ hw h.2⟩
  | fuel + 1, _, _, _, hw, h => ⟨fun h0 => hQ _ _ hw (h.1 h0), fun i hi => wpOpIn_of_q nd hw (fun a' w' hw' => wpAnyIn_of_q nd hQ fuel _ a' w' hw') (h.2 i hi)⟩
theorem WC.quiet {id : Nat} {l : List Oper} (hm : P.follows .mixedOrders = true := by kernel_rfl) (hB : Region.lexB .any l.toArray = true := by kernel_rfl) (hd : l.all (fun o => notSel o.op) = true := by kernel_rfl) (k : WQ P l.toArray n (Adds w) (ZX n (Adds w) Q) l fr) : WC P n Q (.region id l.toArray true) fr w := fun a ha => by
  simp only [Region.lexB, Bool.and_eq_true] at hB
  refine wpIn_region_any hm (wpAnyIn_of_q (R0 := n.R) (nds_arr hd) (C := Adds w) (Q := ZX n (Adds w) Q) (fun _ w' hw' h => h w' hw') _ _ _ _ ((Keeps.refl _ w).drew) ?_)
  have := wpAnyQ_lex (C := Adds w) (md := .any) hB.1 l 0 (Array.replicate l.toArray.size false) a (by simp) (by simpa using hB.2) (k a ha)
  simpa using this
end
section
variable {P : Program} {ops : Array Oper} {md : Region.Mode} {C : World → Prop}
def AnyC (P : Program) (md : Region.Mode) (ops : Array Oper) (C : World → Prop) (m : Nat) (L : Array Bool → Act → Prop) : Nat → Array Bool → Act → Prop
  | 0, listed, a => L listed a
  | f + 1, listed, a => Region.ready md ops listed ≠ [] ∧ ∀ i ∈ Region.ready md ops listed, i < m ∧ qOp P ops C i (AnyC P md ops C m L f (listed.setIfInBounds i true)) a
theorem wpAnyIn_of_seq {R0 : Option Nat} {Q' : Exit → Act → World → Prop} : ∀ (l : List Oper) (k : Nat) (listed : Array Bool) (a : Act) (w : World), (∀ j, l[j]? = ops[k + j]?) →
    Region.seqB md ops l.length k listed = true → wpListIn (fz R0) 0 P ops Q' l a w → wpAnyIn (fz R0) 0 P md ops Q' l.length listed a w
  | [], _, _, _, _, _, hB, h => ⟨by simpa [Region.seqB] using hB, h⟩
  | o :: l, k, listed, a, w, hl, hB, h => by
    have h0 : ops[k]? = some o := by simpa using (hl 0).symm
    simp only [List.length_cons, Region.seqB, Bool.and_eq_true, decide_eq_true_eq] at hB
    refine ⟨fun h1 => (by rw [hB.1] at h1; cases h1), fun i hi => ?_⟩
    rw [hB.1] at hi
    have hik : i = k := by simpa using hi
    subst hik
    have hw : wpOpIn (fz R0) 0 P ops Q' i (wpListIn (fz R0) 0 P ops Q' l) a w := by unfold wpOpIn; simp only [h0]; exact h
    exact wpOpIn_mono (fun a' w' h' => wpAnyIn_of_seq l (i + 1) _ a' w' (fun j => by have := hl (j + 1); simpa [Nat.add_assoc, Nat.add_comm 1 j] using this) hB.2 h') hw
theorem AnyC.any {R0 : Option Nat} {m g : Nat} {L : Array Bool → Act → Prop} {Q : Exit → Act → World → Prop} (nd : Nds ops) (hL : ∀ listed a w, C w → L listed a → wpAnyIn (fz R0) 0 P md ops Q g listed a w) :
    ∀ (f : Nat) (listed : Array Bool) (a : Act) (w : World), C w → AnyC P md ops C m L f listed a → wpAnyIn (fz R0) 0 P md ops Q (f + g) listed a w
  | 0, listed, a, w, hw, h => by rw [Nat.zero_add]; exact hL _ _ _ hw h
  | f + 1, listed, a, w, hw, h => by
    rw [Nat.succ_add]
    exact ⟨fun h0 => absurd h0 h.1, fun i hi => wpOpIn_of_q nd hw (fun a' w' hw' h' => AnyC.any nd hL f _ a' w' hw' h') (h.2 i hi).2⟩
theorem AnyC.first {m i : Nat} {oi : Oper} {v : Value} {L : Array Bool → Act → Prop} (hi : ops[i]? = some oi) (hsel : ∀ (j : Nat) (o : Oper) cs b, ops[j]? = some o → o.op ≠ .select cs b)
    (hs : Region.sinkB md ops m = true) (hc : Region.chainB md ops m = true) (hn : m < ops.size) (him : i < m) (hdone : ∀ listed a, L listed a → ∀ j ∈ Region.ready md ops listed, m ≤ j) :
    ∀ (f : Nat) (listed : Array Bool) (a : Act), HeadInv md ops m listed →
      (∀ j oj, ops[j]? = some oj → j ≠ i → listed.getD j true = false → (∀ e ∈ oj.after, Region.binds md e = true → e.on ≠ i) → oi.apart ops oj = true) →
      i ∈ Region.ready md ops listed → YieldsIn P ops C oi v a →
      AnyC P md ops C m L f (listed.setIfInBounds i true) (a.put oi.dst v) → AnyC P md ops C m L (f + 1) listed a := by
  intro f
  induction f with
  | zero =>
    intro listed a inv _ hr hy H
    refine ⟨fun h => (by rw [h] at hr; cases hr), fun j hj => ?_⟩
    have hjm : j < m := Nat.lt_of_not_le fun h => tail_waits hs hc hn inv _ i rfl him (mem_ready.1 hr).1 j h hj
    refine ⟨hjm, ?_⟩
    by_cases hji : j = i
    · subst hji; exact hy.qOp hi H
    · exact absurd (hdone _ _ H j (ready_mono hj hji)) (Nat.not_le.2 hjm)
  | succ f ih =>
    intro listed a inv hfree hr hy H
    have hun := (mem_ready.1 hr).1
    refine ⟨fun h => (by rw [h] at hr; cases hr), fun j hj => ?_⟩
    have hjm : j < m := Nat.lt_of_not_le fun h => tail_waits hs hc hn inv _ i rfl him hun j h hj
    refine ⟨hjm, ?_⟩
    by_cases hji : j = i
    · subst hji; exact hy.qOp hi H
    · obtain ⟨hjun, oj, hoj, hall⟩ := mem_ready.1 hj
      have hnot : ∀ e ∈ oj.after, Region.binds md e = true → e.on ≠ i := fun e he hb heq => by
        have h1 := hall e he hb
        rw [heq, getD_both hun] at h1
        cases h1
      refine qOp_mono (fun a' h3 => ?_) (qOp_put hoj (hfree j oj hoj hji hjun hnot) (fun cs b => hsel i oi cs b hi) (fun cs b => hsel j oj cs b hoj) hy (H.2 j (ready_mono hj hji)).2)
      refine ih _ a' (inv.set hj hjm) (fun k ok hk hki hun' hno => hfree k ok hk hki ?_ hno) (ready_mono hr (Ne.symm hji)) h3.1 ?_
      · by_cases hjk : j = k
        · subst hjk; exact hjun
        · rw [getD_set_ne true hjk] at hun'; exact hun'
      · rw [Array.setIfInBounds_comm _ _ hji]
        exact h3.2
theorem AnyC.lex {m g : Nat} {Z : Act → Prop} (hsel : Region.noSelect ops = true) (hs : Region.sinkB md ops m = true) (hc : Region.chainB md ops m = true) (hn : m < ops.size) :
    ∀ (l : List Oper) (k : Nat) (listed : Array Bool) (a : Act), (∀ j, j < l.length → l[j]? = ops[k + j]?) → k + l.length = m → HeadInv md ops m listed →
    Region.lexHead md ops g l.length k listed = true → wpQuiet P ops C Z l a → AnyC P md ops C m (fun listed' a' => Region.seqB md ops g m listed' = true ∧ Z a') l.length listed a
  | [], k, listed, a, _, hk, _, hB, h => by
    have : k = m := by simpa using hk
    subst this
    exact ⟨by simpa [Region.lexHead] using hB, h⟩
  | o :: l, k, listed, a, hl, hk, inv, hB, h => by
    have h0 : ops[k]? = some o := by simpa using (hl 0 (by simp)).symm
    simp only [List.length_cons, Region.lexHead, Bool.and_eq_true] at hB
    obtain ⟨⟨hr, hf⟩, hB'⟩ := hB
    have hkm : k < m := by simp only [List.length_cons] at hk; omega
    have hr' : k ∈ Region.ready md ops listed := by simpa using hr
    have hst : qOp P ops C k (wpQuiet P ops C Z l) a := by unfold qOp; simp only [h0]; exact h
    obtain ⟨v, hy, hK⟩ := yieldsIn_of_qOp h0 hst
    exact AnyC.first h0 (Region.noSelect_spec hsel) hs hc hn hkm (fun listed' a' hL => seqB_ready hL.1) l.length listed a inv (Region.free_spec h0 hf) hr' hy
      (AnyC.lex hsel hs hc hn l (k + 1) _ _ (fun j hj => by have := hl (j + 1) (by simp; omega); simpa [Nat.add_assoc, Nat.add_comm 1 j] using this) (by simp only [List.length_cons] at hk; omega) (inv.set hr' hkm) hB' hK)
theorem WC.tail {n : Md} {Q : Exit → Act → World → Prop} {fr : Fr} {w : World} {id : Nat} {l : List Oper} (m : Nat) (hm : P.follows .mixedOrders = true := by kernel_rfl) (hB : Region.lexTailB .any l.toArray m = true := by kernel_rfl) (hd : l.all (fun o => notSel o.op) = true := by kernel_rfl)
    (k : WQ P l.toArray n (Adds w) (ZL P l.toArray n.R (Adds w) Q (l.drop m)) (l.take m) fr) : WC P n Q (.region id l.toArray true) fr w := by
  intro a ha
  simp only [Region.lexTailB, Bool.and_eq_true, decide_eq_true_eq] at hB
  obtain ⟨⟨⟨⟨hsel, hn⟩, hs⟩, hc⟩, hlex⟩ := hB
  have hn' : m < l.length := by simpa using hn
  have htl : (l.take m).length = m := by simp; omega
  have hdl : (l.drop m).length = l.toArray.size - m := by simp
  have inv0 : HeadInv .any l.toArray m (Array.replicate l.toArray.size false) :=
    ⟨by simp, fun j oj _ hl => (by rw [getD_replicate_false] at hl; cases hl), fun t _ ht => getD_in (by simpa using ht) (getD_replicate_false _ _)⟩
  have H := AnyC.lex (md := .any) (g := l.toArray.size - m) hsel hs hc hn (l.take m) 0 _ a (fun j hj => by
    have hj' : j < m := by rw [htl] at hj; exact hj
    simp [hj']) (by simpa using htl) inv0 (by rw [htl]; exact hlex) (k a ha)
  refine wpIn_region_any hm ?_
  have := AnyC.any (R0 := n.R) (nds_arr hd) (Q := Q) (g := l.toArray.size - m) (fun listed a' w' hw' hL => by
    have := wpAnyIn_of_seq (R0 := n.R) (md := .any) (Q' := Q) (l.drop m) m listed a' w' (fun j => by simp [List.getElem?_drop]) (by rw [hdl]; exact hL.1) (hL.2 w' hw')
    rwa [hdl] at this) _ _ _ { w with drawn := w.drawn + 1 } ((Keeps.refl _ w).drew) H
  rw [htl, show m + (l.toArray.size - m) = l.toArray.size by omega] at this
  exact this
end
end Go.Proofs.YtnkkbeafcfjkmaaGreatDoor
namespace Go.Proofs.YtnkkbeafcfjkmaaGreatDoor
open Go.RowKit
set_option linter.unusedVariables false
structure BuT (T : Nat) : Prop where
  lies : liesAt Tryz.prog Tryz.prog.depth T (2 / Tryz.prog.cellsOf T) 0 133 1 = true
  ne : T ≠ 5
theorem sizeBuilder : (Tryz.prog.info? 133).map (·.size) = some 2 := by kernel_rfl
theorem infoByte : (Tryz.prog.info? 5).map (fun i => (i.zero, i.size, i.bytes)) = some (some (.int .u8 0), 1, 1) := by kernel_rfl
theorem cellsByte : Tryz.prog.cellsOf 5 = 1 := by kernel_rfl
theorem buT_Builder : BuT 133 := ⟨by kernel_rfl, by decide⟩
set_option maxHeartbeats 1000000 in
set_option maxRecDepth 100000 in
theorem sbCopyCheck_used (b : Nat) (w : World) (h0 : w.cell? ⟨b, 0, none⟩ = some (.pointer (some ⟨b, 0, none⟩))) :
    Calls Tryz.prog 84 #[.pointer (some ⟨b, 0, none⟩)] w fun e w' => e = .returned (.tuple #[]) ∧ w' = w := by
  obtain ⟨j, hj, _⟩ := Option.map_eq_some_iff.1 sizeBuilder
  go_enter Tryz.func84, Tryz.ntmps84
  go_wp2
  rw [Lib.run_neq_ptr_same w _ Tryz.underlying131 hj]
  go_wp2
  go_end0
  exact ⟨rfl, rfl⟩
set_option maxHeartbeats 1000000 in
set_option maxRecDepth 100000 in
theorem sbCopyCheck_fresh (T b : Nat) (hT : BuT T) (w : World) (h0 : w.cell? ⟨b, 0, none⟩ = some (.pointer none)) (hsh : w.shape? b = some (T, 2)) (hfz : w.frozen? ⟨b, 0, none⟩ = false) :
    Calls Tryz.prog 84 #[.pointer (some ⟨b, 0, none⟩)] w fun e w' => e = .returned (.tuple #[]) ∧ w' = w.setCell ⟨b, 0, none⟩ (.pointer (some ⟨b, 0, none⟩)) := by
  obtain ⟨j, hj, hjs⟩ := Option.map_eq_some_iff.1 sizeBuilder
  go_enter Tryz.func84, Tryz.ntmps84
  go_wp2
  rw [Lib.run_to_unsafe w ⟨b, 0, none⟩ Tryz.underlying131 Tryz.underlying155 hj (by rw [hjs]; decide) hsh (Nat.zero_lt_succ 1)]
  simp only [Result.andThen]
  rw [Oper.upon_value]
  go_wp2
  rw [run_callFunc_extern Tryz.func94 (by kernel_rfl) (by kernel_rfl) (by kernel_rfl) (e := Extern.AbiNoEscape.same) (by kernel_rfl)]
  rw [Lib.run_noEscape]
  simp only [Result.andThen]
  rw [Oper.upon_value]
  go_wp2
  rw [Lib.run_from_unsafe w ⟨b, 0, none⟩ Tryz.underlying155 Tryz.underlying131 hj hsh hT.lies]
  simp only [Result.andThen]
  rw [Oper.upon_value]
  go_wp2
  go_end0
  exact ⟨rfl, rfl⟩
theorem BuAt.shape {T B b : Nat} {bs : List UInt8} {w : World} (h : BuAt T B b bs w) : w.shape? b = some (T, 2) := by
  obtain ⟨p, v, _, hb, _⟩ := h
  simp [World.shape?, hb]
def BuUs (T B b : Nat) (v : Value) (bs : List UInt8) (w : World) : Prop :=
  w.heap[b]? = some (.cells #[.pointer (some ⟨b, 0, none⟩), v] T (0, 0)) ∧ w.ownsRowF B 5 1 v bs.length (Lib.byteCells bs) ∧ v.ownBlock ≠ some b
theorem BuUs.put {T B b : Nat} {v v' : Value} {bs' : List UInt8} {w : World} (hT : BuT T) (hb : w.heap[b]? = some (.cells #[.pointer (some ⟨b, 0, none⟩), v] T (0, 0)))
    (hown : w.ownsRowF B 5 1 v' bs'.length (Lib.byteCells bs')) : BuAt T B b bs' (w.setCell ⟨b, 1, none⟩ v') := by
  have hne := Lib.ownBlock_neF hown hb hT.ne
  refine ⟨_, v', .inr rfl, by rw [heap_set_same hb]; rfl, ?_, hne⟩
  exact hown.kept (row := some b) ⟨rfl, rfl, rfl, by simp [World.setCell], fun k _ hk => Below.heap_setCell _ _ _ _ (fun e => hk (by simp [e]))⟩ (Or.inr hne)
theorem unsafeString_none (W : World) (q : Option Addr) : (Builtin.unsafeString_ #[148, 3] 9 #[.pointer q, .int .i64 0]).run Tryz.prog W = .ok (.string .empty) W :=
  Lib.run_unsafeString_none W _ _ _ q
set_option maxHeartbeats 2000000 in
set_option maxRecDepth 100000 in
theorem sbString_nil (T b : Nat) (p : Value) (w : World) (hbk : w.heap[b]? = some (.cells #[p, .slice none 0 0] T (0, 0))) :
    Calls Tryz.prog 72 #[.pointer (some ⟨b, 0, none⟩)] w fun e w' => e = .returned (.string ⟨#[]⟩) ∧ w' = w.drew := by
  have hUS := unsafeString_none
  have c1 := cell_at (w := w.drew) hbk 1 rfl
  have hSD : (Builtin.unsafeSliceData_ #[61] 148 #[.slice none 0 0]).run Tryz.prog w.drew = .ok (.pointer none) w.drew := rfl
  go_enter Tryz.func72, Tryz.ntmps72
  go_wp2
  go_region
  all_goals (go_wp2; go_ret; exact ⟨rfl, rfl⟩)
set_option maxHeartbeats 2000000 in
set_option maxRecDepth 100000 in
theorem sbString_noroom (T b g : Nat) (p : Value) (cur : Array Value) (fz : Nat × Nat) (w : World) (hbk : w.heap[b]? = some (.cells #[p, .slice (some ⟨g, 0, none⟩) 0 0] T (0, 0))) (hg : w.heap[g]? = some (.cells cur 5 fz)) :
    Calls Tryz.prog 72 #[.pointer (some ⟨b, 0, none⟩)] w fun e w' => e = .returned (.string ⟨#[]⟩) ∧ Adds w w' := by
  have hUS := unsafeString_none
  have c1 := cell_at (w := w.drew) hbk 1 rfl
  have hSD : (Builtin.unsafeSliceData_ #[61] 148 #[.slice (some ⟨g, 0, none⟩) 0 0]).run Tryz.prog w.drew = .ok (.pointer (some ⟨w.drew.heap.size, 0, none⟩)) (w.drew.alloc (.view ⟨g, 0, none⟩ 5)) :=
    Lib.run_unsafeSliceData_zero w.drew _ _ 5 Tryz.underlying148 ⟨g, 0, none⟩ 0 (5, cur.size) (by have hg' : w.drew.heap[g]? = some (.cells cur 5 fz) := hg; simp [World.shape?, hg'])
  have c2 : (w.drew.alloc (.view ⟨g, 0, none⟩ 5)).cell? ⟨b, 1, none⟩ = some (.slice (some ⟨g, 0, none⟩) 0 0) := by
    have : (w.drew.alloc (.view ⟨g, 0, none⟩ 5)).heap[b]? = _ := (Lib.alloc_old w.drew _ b (lt_of_heap hbk)).trans hbk
    rw [Lib.cell_of_heap this]; rfl
  have c3 : (w.alloc (.view ⟨g, 0, none⟩ 5)).drew.cell? ⟨b, 1, none⟩ = some (.slice (some ⟨g, 0, none⟩) 0 0) := c2
  have c0 : w.cell? ⟨b, 1, none⟩ = some (.slice (some ⟨g, 0, none⟩) 0 0) := c1
  go_enter Tryz.func72, Tryz.ntmps72
  go_wp2
  go_region
  all_goals (go_wp2; go_ret; exact ⟨rfl, (Keeps.drew (Keeps.refl _ w)).alloc _⟩)
set_option maxHeartbeats 2000000 in
set_option maxRecDepth 100000 in
theorem sbString_room (T b g cap : Nat) (p : Value) (w : World) (hc0 : cap ≠ 0) (hbk : w.heap[b]? = some (.cells #[p, .slice (some ⟨g, 0, none⟩) 0 cap] T (0, 0))) :
    Calls Tryz.prog 72 #[.pointer (some ⟨b, 0, none⟩)] w fun e w' => e = .returned (.string ⟨#[]⟩) ∧ w' = w.drew := by
  have hUS := unsafeString_none
  have c1 := cell_at (w := w.drew) hbk 1 rfl
  have hSD : (Builtin.unsafeSliceData_ #[61] 148 #[.slice (some ⟨g, 0, none⟩) 0 cap]).run Tryz.prog w.drew = .ok (.pointer (some ⟨g, 0, none⟩)) w.drew :=
    Lib.run_unsafeSliceData_row _ _ _ _ _ _ hc0
  clear hc0
  go_enter Tryz.func72, Tryz.ntmps72
  go_wp2
  go_region
  all_goals (go_wp2; go_ret; exact ⟨rfl, rfl⟩)
set_option maxHeartbeats 2000000 in
set_option maxRecDepth 100000 in
theorem sbString_some (T b g cap : Nat) (p : Value) (l : List UInt8) (cur : Array Value) (fz : Nat × Nat) (w : World) (hl0 : l ≠ []) (hl : l.length ≤ 1000000000) (hbk : w.heap[b]? = some (.cells #[p, .slice (some ⟨g, 0, none⟩) l.length cap] T (0, 0)))
    (hg : w.heap[g]? = some (.cells cur 5 fz)) (hcap : l.length ≤ cap) (hcur : cur.size = cap) (hcells : ∀ j u, (Lib.byteCells l)[j]? = some u → w.cell? ((⟨g, 0, none⟩ : Addr).add j) = some u) :
    Calls Tryz.prog 72 #[.pointer (some ⟨b, 0, none⟩)] w fun e w' => e = .returned (.string ⟨l.toArray⟩) ∧ w' = w.drew.freeze ⟨g, 0, none⟩ l.length := by
  have hl1 : l.length ≠ 0 := by simpa using hl0
  have c1 := cell_at (w := w.drew) hbk 1 rfl
  have hSD : (Builtin.unsafeSliceData_ #[61] 148 #[.slice (some ⟨g, 0, none⟩) l.length cap]).run Tryz.prog w.drew = .ok (.pointer (some ⟨g, 0, none⟩)) w.drew :=
    Lib.run_unsafeSliceData_row _ _ _ _ _ _ (by omega)
  have hUS : (Builtin.unsafeString_ #[148, 3] 9 #[.pointer (some ⟨g, 0, none⟩), .int .i64 l.length]).run Tryz.prog w.drew = .ok (.string ⟨l.toArray⟩) (w.drew.freeze ⟨g, 0, none⟩ l.length) := by
    refine Lib.run_unsafeString_row w.drew 148 3 9 5 Tryz.underlying148 cellsByte g cur.size (by have hg' : w.drew.heap[g]? = some (.cells cur 5 fz) := hg; simp [World.shape?, hg']) l hl0 (by omega) (by omega) ?_
    intro j x hx
    have := hcells j (.int .u8 x.toNat) (by simp [Lib.byteCells, hx])
    exact this
  clear hcells hg hbk hl0 hl hcur hcap hl1
  go_enter Tryz.func72, Tryz.ntmps72
  go_wp2
  go_region
  all_goals (go_wp2; go_ret; exact ⟨rfl, rfl⟩)
end Go.Proofs.YtnkkbeafcfjkmaaGreatDoor
namespace Go.Proofs.YtnkkbeafcfjkmaaGreatDoor
open Go
theorem u8_toNat_ofNat (m : Nat) : (UInt8.ofNat (m % 256)).toNat = m % 256 := by
  rw [UInt8.toNat_ofNat']; omega
def beval (l : List UInt8) : Nat := l.foldl (fun a c => a * 256 + c.toNat) 0
theorem beval_snoc (l : List UInt8) (c : UInt8) : beval (l ++ [c]) = beval l * 256 + c.toNat := by simp [beval]
theorem beval_lt (l : List UInt8) : beval l < 256 ^ l.length := by
  rw [← List.reverse_reverse l]
  induction l.reverse with
  | nil => simp [beval]
  | cons c t ih =>
    rw [List.reverse_cons, beval_snoc, List.length_append, List.length_cons, List.length_nil, Nat.pow_succ]
    have := c.toNat_lt
    omega
end Go.Proofs.YtnkkbeafcfjkmaaGreatDoor
namespace Go.Proofs
open Go.Shelf
namespace YtnkkbeafcfjkmaaGreatDoor
open Go.RowKit
set_option linter.unusedVariables false
end YtnkkbeafcfjkmaaGreatDoor
end Go.Proofs
namespace Go.Proofs.YtnkkbeafcfjkmaaGreatDoor
open Go.RowKit
theorem Keeps.cell {S : Nat → Prop} {a b : World} (k : Keeps S a b) {p : Addr} {v : Value} (h : a.cell? p = some v) (hn : ¬ S p.block) : b.cell? p = some v := by
  have hlt : p.block < a.heap.size := World.block_lt_of_cell? a p h
  rw [World.cell?_of_block (k.block p.block hlt hn)]
  exact h
theorem Keeps.lt {S : Nat → Prop} {a b : World} (k : Keeps S a b) {i : Nat} (h : i < a.heap.size) : i < b.heap.size := Nat.lt_of_lt_of_le h k.size
end Go.Proofs.YtnkkbeafcfjkmaaGreatDoor
namespace Go.Proofs.YtnkkbeafcfjkmaaGreatDoor
open Go.RowKit
set_option linter.unusedVariables false
def BuR (T B b : Nat) (r : Option Nat) (bs : List UInt8) (w : World) : Prop :=
  ∃ p v, (p = Value.pointer none ∨ p = Value.pointer (some ⟨b, 0, none⟩)) ∧ w.heap[b]? = some (.cells #[p, v] T (0, 0)) ∧
    w.ownsRowF B 5 1 v bs.length (Lib.byteCells bs) ∧ v.ownBlock ≠ some b ∧ v.ownBlock = r
theorem BuAt.r {T B b : Nat} {bs : List UInt8} {w : World} (h : BuAt T B b bs w) : ∃ r, BuR T B b r bs w := by
  obtain ⟨p, v, h1, h2, h3, h4⟩ := h
  exact ⟨_, p, v, h1, h2, h3, h4, rfl⟩
theorem BuR.at {T B b : Nat} {r : Option Nat} {bs : List UInt8} {w : World} (h : BuR T B b r bs w) : BuAt T B b bs w := by
  obtain ⟨p, v, h1, h2, h3, h4, _⟩ := h
  exact ⟨p, v, h1, h2, h3, h4⟩
theorem BuR.lt {T B b : Nat} {r : Option Nat} {bs : List UInt8} {w : World} (h : BuR T B b r bs w) : ∀ k, r = some k → B ≤ k ∧ k < w.heap.size ∧ k ≠ b := by
  obtain ⟨p, v, h1, h2, h3, h4, rfl⟩ := h
  intro k hk
  have := h3.lt k hk
  exact ⟨this.1, this.2, fun e => h4 (e ▸ hk)⟩
theorem BuR.keeps {T B b : Nat} {r : Option Nat} {bs : List UInt8} {w w' : World} {S : Nat → Prop} (h : BuR T B b r bs w) (k : Keeps S w w') (h1 : ¬ S b) (h2 : ∀ i, r = some i → ¬ S i) : BuR T B b r bs w' := by
  obtain ⟨p, v, hp, hb, hown, hne, hr⟩ := h
  refine ⟨p, v, hp, k.heap hb h1, ⟨hown.1, ?_⟩, hne, hr⟩
  rcases hown.2 with hn | ⟨g, cap, cur, fz, rfl, hbg, hg, rest⟩
  · exact .inl hn
  · exact .inr ⟨g, cap, cur, fz, rfl, hbg, k.heap hg (h2 g (by rw [← hr]; rfl)), rest⟩
theorem sbString_r (T B b : Nat) (r : Option Nat) (bs : List UInt8) (w : World) (h : BuR T B b r bs w) (hlen : bs.length ≤ 1000000000) :
    Calls Tryz.prog 72 #[.pointer (some ⟨b, 0, none⟩)] w fun e w' => e = .returned (.string ⟨bs.toArray⟩) ∧ BuR T B b r bs w' ∧ Keeps (fun k => r = some k) w w' := by
  have h0 := h
  obtain ⟨p, v, hp, hb, hown, hne, hr⟩ := h
  rcases hown.2 with ⟨rfl, h1⟩ | ⟨g, cap, cur, fz, rfl, hbg, hg, hfz, hnc, hcm, hcs, htake⟩
  · obtain rfl : bs = [] := List.eq_nil_of_length_eq_zero h1
    refine (sbString_nil T b p w hb).mono ?_
    rintro e w' ⟨rfl, rfl⟩
    exact ⟨rfl, h0, (Keeps.refl _ w).drew⟩
  · by_cases h1 : bs = []
    · subst h1
      by_cases h2 : cap = 0
      · subst h2
        refine (sbString_noroom T b g p cur fz w hb hg).mono ?_
        rintro e w' ⟨rfl, hk⟩
        exact ⟨rfl, h0.keeps hk id (fun _ _ x => x), hk.any _⟩
      · refine (sbString_room T b g cap p w h2 hb).mono ?_
        rintro e w' ⟨rfl, rfl⟩
        exact ⟨rfl, h0, (Keeps.refl _ w).drew⟩
    · have hgb : g ≠ b := fun e => hne (by simp [Value.ownBlock, e])
      refine (sbString_some T b g cap p bs cur fz w h1 hlen hb hg hnc (by omega) (hown.cells rfl)).mono ?_
      rintro e w' ⟨rfl, rfl⟩
      refine ⟨rfl, ?_, ((Keeps.refl _ w).drew).freeze _ _ (fun _ => hr.symm)⟩
      have hbs : bs.length ≠ 0 := by simpa using h1
      unfold World.freeze
      rw [if_neg hbs]
      refine ⟨p, _, hp, ?_, ⟨hown.1, .inr ⟨g, cap, cur, (if fz.1 == fz.2 then (0, 0 + bs.length) else (min fz.1 0, max fz.2 (0 + bs.length))), rfl, hbg, ?_, ?_, hnc, hcm, hcs, htake⟩⟩, hne, hr⟩
      · simp only [Array.getElem?_modify]
        rw [if_neg hgb]
        exact hb
      · have hg' : w.drew.heap[g]? = some (.cells cur 5 fz) := hg
        simp [Array.getElem?_modify, hg']
      · split <;> simp <;> omega
end Go.Proofs.YtnkkbeafcfjkmaaGreatDoor
namespace Go.Proofs.YtnkkbeafcfjkmaaGreatDoor
open Go.RowKit
def SameOrNew (w : World) (v v' : Value) : Prop := v'.ownBlock = v.ownBlock ∨ ∃ k, v'.ownBlock = some k ∧ w.heap.size ≤ k
theorem ownsRowF_weaken {w : World} {B B' : Nat} {e : TypeId} {size : Nat} {v : Value} {n : Nat} {xs : List Value} (h : w.ownsRowF B e size v n xs) (hB : B' ≤ B) : w.ownsRowF B' e size v n xs := by
  refine ⟨h.1, ?_⟩
  rcases h.2 with hn | ⟨g, cap, cur, fz, hv, hb, rest⟩
  · exact .inl hn
  · exact .inr ⟨g, cap, cur, fz, hv, Nat.le_trans hB hb, rest⟩
section
variable {P : Program} (w : World)
theorem run_append_ownX (base : Nat) (t ty e : TypeId) (i : TypeInfo) (z : Value) (size bytes : Nat) (ht : P.underlying t = some (.slice e)) (hi : P.info? e = some i) (hz : i.zero = some z)
    (hsize : i.size = size) (hby : i.bytes = bytes) (hzs : z.cells.size = size) (hsz : 0 < size)
    (v : Value) (n : Nat) (xs : List Value) (hown : w.ownsRowF base e size v n xs)
    (a : Addr) (m c : Nat) (news : List Value) (hl : news.length = m * size) (hnews : ∀ j u, news[j]? = some u → w.cell? (a.add j) = some u) (h1 : ∀ u ∈ news, u.oneCell' = true)
    (h63 : n + m ≤ maxLen) (hbytes : (n + m) * bytes ≤ 140737488355328) (hbase : base ≤ w.heap.size) :
    ∃ v' w', (Builtin.append_ #[t, t] ty #[v, .slice (some a) m c]).run P w = .ok v' w' ∧ w'.ownsRowF base e size v' (n + m) (xs ++ news) ∧ w.grownBy w' v.ownBlock ∧ SameOrNew w v v' := by
  rcases hown.2 with ⟨rfl, rfl⟩ | ⟨g, cap, cur, fz, rfl, hbg, hg, hfz, hnc, hcm, hcs, htake⟩
  · obtain ⟨v', w', r1, r2, r3, _⟩ := run_append_ownF (P := P) w w.heap.size t ty e i z size bytes ht hi hz hsize hby hzs hsz (.slice none 0 0) 0 xs ⟨hown.1, .inl ⟨rfl, rfl⟩⟩ a m c news hl hnews h1 h63 hbytes (Nat.le_refl _)
    refine ⟨v', w', r1, ownsRowF_weaken r2 hbase, r3, ?_⟩
    cases hk : v'.ownBlock with
    | none => exact .inl (by rw [hk]; rfl)
    | some k => exact .inr ⟨k, hk, (r2.lt k hk).1⟩
  · obtain ⟨v', w', r1, r2, r3, _⟩ := run_append_ownF (P := P) w base t ty e i z size bytes ht hi hz hsize hby hzs hsz _ n xs hown a m c news hl hnews h1 h63 hbytes hbase
    refine ⟨v', w', r1, r2, r3, ?_⟩
    subst hsize
    subst hby
    have hsmall : n + m ≤ 9223372036854775807 := by simp only [maxLen] at h63; omega
    by_cases hroom : n + m ≤ cap
    · have hfit : n * i.size + news.length ≤ cur.size := by rw [hl, hcs, ← Nat.add_mul]; exact Nat.mul_le_mul_right _ hroom
      have hr := run_append_roomF (P := P) w t ty e i ht hi g n cap cur fz hg hfz a m c news hl hnews h1 hroom hfit
      rw [r1] at hr
      injection hr with hv _
      exact .inl (by rw [hv]; rfl)
    · have holds : ∀ j u, xs[j]? = some u → w.cell? ((⟨g, 0, none⟩ : Addr).add j) = some u := hown.cells (g := g) rfl
      have hr := run_append_grow (P := P) w t ty e i z ht hi hz ⟨g, 0, none⟩ n cap xs hown.1 holds a m c news hl hnews (by omega) (by omega) (growslice_fits (by omega) hbytes)
      rw [r1] at hr
      injection hr with hv _
      exact .inr ⟨w.heap.size, by rw [hv]; rfl, Nat.le_refl _⟩
theorem wpList_append_ownX {ops : Array Oper} {rest : List Oper} {o : Oper} {a : Act} {Q : Exit → Act → World → Prop} (hgd : o.guard = none) (s x : Operand) (t : TypeId)
    (ho : o.op = .call { callee := .builtin .append, args := #[s, x], argTypes := #[t, t] })
    (base : Nat) (e : TypeId) (i : TypeInfo) (z : Value) (size bytes : Nat) (ht : P.underlying t = some (.slice e)) (hi : P.info? e = some i) (hz : i.zero = some z)
    (hsize : i.size = size) (hby : i.bytes = bytes) (hzs : z.cells.size = size) (hsz : 0 < size)
    (v : Value) (n : Nat) (xs : List Value) (hs : a.eval s = v) (hown : w.ownsRowF base e size v n xs)
    (ad : Addr) (m c : Nat) (news : List Value) (hx : a.eval x = .slice (some ad) m c) (hl : news.length = m * size) (hnews : ∀ j u, news[j]? = some u → w.cell? (ad.add j) = some u) (h1 : ∀ u ∈ news, u.oneCell' = true)
    (h63 : n + m ≤ maxLen) (hbytes : (n + m) * bytes ≤ 140737488355328) (hbase : base ≤ w.heap.size)
    (h : ∀ v' w', w'.ownsRowF base e size v' (n + m) (xs ++ news) → w.grownBy w' v.ownBlock → SameOrNew w v v' → wpList P ops Q rest (a.put o.dst v') w') : wpList P ops Q (o :: rest) a w := by
  refine wpList_plain hgd fun K hK => ?_
  obtain ⟨v', w', hr, h2, h3, h4⟩ := run_append_ownX (P := P) w base t o.type e i z size bytes ht hi hz hsize hby hzs hsz v n xs hown ad m c news hl hnews h1 h63 hbytes hbase
  unfold Oper.wp execOp
  simp only [ho, resolve, invoke, builtin, Sem.run_bind, Sem.run_pure, Result.andThen_ok, List.map_toArray, List.map_cons, List.map_nil, hs, hx, hr]
  exact hK _ _ (h v' w' h2 h3 h4)
end
end Go.Proofs.YtnkkbeafcfjkmaaGreatDoor
namespace Go.Proofs.YtnkkbeafcfjkmaaGreatDoor
open Go.RowKit
set_option linter.unusedVariables false
def WrPost (T b : Nat) (r : Option Nat) (bs : List UInt8) (w w' : World) : Prop :=
  ∃ r', BuR T 0 b r' bs w' ∧ (r' = r ∨ ∃ k, r' = some k ∧ w.heap.size ≤ k) ∧ Keeps (fun k => k = b ∨ r = some k) w w'
theorem WrPost.refl {T b : Nat} {r : Option Nat} {bs : List UInt8} {w : World} (h : BuR T 0 b r bs w) : WrPost T b r bs w w := ⟨r, h, .inl rfl, Keeps.refl _ _⟩
theorem WrPost.size {T b : Nat} {r : Option Nat} {bs : List UInt8} {w w' : World} (h : WrPost T b r bs w w') : w.heap.size ≤ w'.heap.size := by
  obtain ⟨_, _, _, k⟩ := h; exact k.size
theorem WrPost.keeps {T b : Nat} {r : Option Nat} {bs : List UInt8} {w w' : World} (h : WrPost T b r bs w w') : Keeps (fun k => k = b ∨ r = some k) w w' := by
  obtain ⟨_, _, _, k⟩ := h; exact k
theorem WrPost.step {T b : Nat} {r : Option Nat} {bs bs' : List UInt8} {w w1 w2 : World} (h : WrPost T b r bs w w1) (g : ∀ r1, BuR T 0 b r1 bs w1 → WrPost T b r1 bs' w1 w2) : WrPost T b r bs' w w2 := by
  obtain ⟨r1, h1, n1, k1⟩ := h
  obtain ⟨r2, h2, n2, k2⟩ := g r1 h1
  have hs := k1.size
  refine ⟨r2, h2, ?_, k1.trans' k2 (fun i hi hx => ?_)⟩
  · rcases n2 with rfl | ⟨k, rfl, hk⟩
    · exact n1
    · exact .inr ⟨k, rfl, by omega⟩
  · rcases hx with hx | hx
    · exact .inl hx
    · rcases n1 with rfl | ⟨k, rfl, hk⟩
      · exact .inr hx
      · cases hx; omega
theorem WrPost.then {T b : Nat} {r : Option Nat} {bs : List UInt8} {w w1 w2 : World} (h : WrPost T b r bs w w1) (k : Adds w1 w2) : WrPost T b r bs w w2 := by
  obtain ⟨r1, h1, n1, k1⟩ := h
  exact ⟨r1, h1.keeps k id (fun _ _ x => x), n1, k1.trans (k.any _)⟩
theorem WrPost.drew {T b : Nat} {r : Option Nat} {bs : List UInt8} {w w1 : World} (h : WrPost T b r bs w w1) : WrPost T b r bs w w1.drew := h.then ((Keeps.refl _ _).drew)
theorem WrPost.alloc {T b : Nat} {r : Option Nat} {bs : List UInt8} {w w1 : World} (h : WrPost T b r bs w w1) (o : Obj) : WrPost T b r bs w (w1.alloc o) := h.then ((Keeps.refl _ _).alloc o)
theorem WrPost.adds {T b : Nat} {bs : List UInt8} {w w1 w2 : World} {r : Option Nat} (h : WrPost T b r bs w1 w2) (k : Adds w w1) (hb : w.heap.size ≤ b) (hr : ∀ i, r = some i → w.heap.size ≤ i) : Adds w w2 :=
  k.trans' h.keeps (fun i hi hx => by rcases hx with hx | hx; omega; have := hr i hx; omega)
theorem BuR.base {T B b : Nat} {r : Option Nat} {bs : List UInt8} {w : World} (h : BuR T B b r bs w) : BuR T 0 b r bs w := by
  obtain ⟨p, v, h1, h2, h3, h4⟩ := h
  exact ⟨p, v, h1, h2, ownsRowF_weaken h3 (Nat.zero_le _), h4⟩
theorem sbCopyCheck_r (T b : Nat) (r : Option Nat) (hT : BuT T) (bs : List UInt8) (w : World) (h : BuR T 0 b r bs w) :
    Calls Tryz.prog 84 #[.pointer (some ⟨b, 0, none⟩)] w fun e w' => e = .returned (.tuple #[]) ∧ ∃ v, (BuUs T 0 b v bs w' ∧ v.ownBlock = r) ∧ Keeps (fun k => k = b) w w' := by
  have hsh := h.at.shape
  obtain ⟨p, v, hp, hb, hown, hne, hr⟩ := h
  rcases hp with rfl | rfl
  · refine (sbCopyCheck_fresh T b hT w (cell_at hb 0 rfl) hsh (free_at hb 0)).mono ?_
    rintro e w' ⟨rfl, rfl⟩
    refine ⟨rfl, v, ⟨⟨by rw [heap_set_same hb]; rfl, ?_, hne⟩, hr⟩, (Keeps.refl _ w).setCell _ _ (fun _ => rfl)⟩
    exact hown.kept (row := some b) ⟨rfl, rfl, rfl, by simp [World.setCell], fun k _ hk => Below.heap_setCell _ _ _ _ (fun e => hk (by simp [e]))⟩ (Or.inr hne)
  · refine (sbCopyCheck_used b w (cell_at hb 0 rfl)).mono ?_
    rintro e w' ⟨rfl, rfl⟩
    exact ⟨rfl, v, ⟨⟨hb, hown, hne⟩, hr⟩, Keeps.refl _ _⟩
theorem BuUs.putR {T b : Nat} {v v' : Value} {bs' : List UInt8} {w : World} (hT : BuT T) (hb : w.heap[b]? = some (.cells #[.pointer (some ⟨b, 0, none⟩), v] T (0, 0)))
    (hown : w.ownsRowF 0 5 1 v' bs'.length (Lib.byteCells bs')) : BuR T 0 b v'.ownBlock bs' (w.setCell ⟨b, 1, none⟩ v') := by
  have hne := Lib.ownBlock_neF hown hb hT.ne
  refine ⟨_, v', .inr rfl, by rw [heap_set_same hb]; rfl, ?_, hne, rfl⟩
  exact hown.kept (row := some b) ⟨rfl, rfl, rfl, by simp [World.setCell], fun k _ hk => Below.heap_setCell _ _ _ _ (fun e => hk (by simp [e]))⟩ (Or.inr hne)
set_option maxHeartbeats 2000000 in
set_option maxRecDepth 100000 in
theorem sbWriteByte_r (T b : Nat) (r : Option Nat) (hT : BuT T) (bs : List UInt8) (c : UInt8) (x : Int) (hx : x = c.toNat) (w : World) (h : BuR T 0 b r bs w) (hlen : bs.length ≤ 1000000000) :
    Calls Tryz.prog 71 #[.pointer (some ⟨b, 0, none⟩), .int .u8 x] w fun e w' => e = .returned .nilIface ∧ WrPost T b r (bs ++ [c]) w w' := by
  subst hx
  obtain ⟨i0, hi, hz0, hz1, hz2⟩ := info_parts infoByte
  go_enter Tryz.func71, Tryz.ntmps71
  go_wp2_with (go_at_call 84; refine (sbCopyCheck_r T b r hT bs _ h).mono ?_)
  rintro e w1 ⟨rfl, v, ⟨⟨hbk, hown, hne⟩, hr⟩, hk⟩
  have HR := Lib.hid hr
  clear hr
  have c0 := cell_at hbk 0 rfl
  have c1 := cell_at hbk 1 rfl
  have hsz := hk.size
  go_wp2_with (at_builtin; refine wpList_append_ownX _ rfl _ _ 61 rfl 0 5 i0 (.int .u8 0) 1 1 Tryz.underlying61 hi hz0 hz1 hz2 rfl (by decide) _ _ _ rfl (hown.alloc _) ⟨w1.heap.size, 0, none⟩ 1 1 [.int .u8 c.toNat] rfl rfl ?c1 ?c2 ?c3 ?c4 ?c5 ?_)
  case c1 =>
    intro j u hj
    match j, hj with
    | 0, hj => simp at hj; subst hj; simp [Addr.add]
  case c2 => intro u hu; simp at hu; subst hu; rfl
  case c3 => unfold maxLen; omega
  case c4 => omega
  case c5 => exact Nat.zero_le _
  intro v' w2 hown' hgrow hnew
  have hlt := lt_of_heap hbk
  have hb2 : w2.heap[b]? = some (.cells #[.pointer (some ⟨b, 0, none⟩), v] T (0, 0)) := by
    rw [hgrow.block b (by simp; omega) (fun e => hne e.symm), Lib.alloc_old w1 _ b hlt]
    exact hbk
  have d1 := cell_at hb2 1 rfl
  have f1 := free_at hb2 1
  obtain ⟨g, cap, rfl⟩ : ∃ g cap, v' = .slice (some ⟨g, 0, none⟩) (bs.length + 1) cap := by
    rcases hown'.2 with ⟨_, h0⟩ | ⟨g, cap, cur, fz, hv, _⟩
    · omega
    · exact ⟨g, cap, hv⟩
  have HN := Lib.hid hnew
  clear hnew
  go_wp2
  go_ret
  refine ⟨rfl, _, BuUs.putR hT hb2 (bs' := bs ++ [c]) (by simpa [Lib.byteCells] using hown'), ?_, ?_⟩
  · rcases HN.out with h1 | ⟨k, h1, h2⟩
    · exact .inl (h1.trans HR.out)
    · exact .inr ⟨k, h1, by have : (w1.alloc (.cells #[.int .u8 c.toNat] 5)).heap.size = w1.heap.size + 1 := by simp
                            omega⟩
  · exact (((hk.mono (fun _ _ x => Or.inl x)).alloc _).grown hgrow (fun k hk' _ => .inr (HR.out.symm.trans hk'))).setCell _ _ (fun _ => .inl rfl)
end Go.Proofs.YtnkkbeafcfjkmaaGreatDoor
namespace Go.Proofs.YtnkkbeafcfjkmaaGreatDoor
open Go.RowKit
set_option linter.unusedVariables false
end Go.Proofs.YtnkkbeafcfjkmaaGreatDoor
namespace Go.Proofs.YtnkkbeafcfjkmaaGreatDoor
open Go.RowKit
set_option linter.unusedVariables false
end Go.Proofs.YtnkkbeafcfjkmaaGreatDoor
namespace Go.Proofs.YtnkkbeafcfjkmaaGreatDoor
open Go.RowKit
set_option linter.unusedVariables false
end Go.Proofs.YtnkkbeafcfjkmaaGreatDoor
namespace Go.Proofs.YtnkkbeafcfjkmaaGreatDoor
open Go.RowKit
set_option linter.unusedVariables false
end Go.Proofs.YtnkkbeafcfjkmaaGreatDoor
namespace Go.Proofs.YtnkkbeafcfjkmaaGreatDoor
open Go.RowKit
set_option linter.unusedVariables false
end Go.Proofs.YtnkkbeafcfjkmaaGreatDoor
namespace Go.Proofs.YtnkkbeafcfjkmaaGreatDoor
open Go.RowKit
set_option linter.unusedVariables false
end Go.Proofs.YtnkkbeafcfjkmaaGreatDoor
namespace Go.Proofs.YtnkkbeafcfjkmaaGreatDoor
open Go.RowKit
set_option linter.unusedVariables false
end Go.Proofs.YtnkkbeafcfjkmaaGreatDoor
namespace Go.Proofs.YtnkkbeafcfjkmaaGreatDoor
open Go.RowKit
set_option linter.unusedVariables false
end Go.Proofs.YtnkkbeafcfjkmaaGreatDoor
namespace Go.Proofs.YtnkkbeafcfjkmaaGreatDoor
open Go.RowKit
set_option linter.unusedVariables false
set_option linter.unusedSimpArgs false
section
variable {T T' b c : Nat} {r r' r0 : Option Nat} {bs : List UInt8} {w w' w0 : World} {cs : Array Value} {fz : Nat × Nat}
theorem BuR.offT (h : BuR T 0 b r bs w) (hc : w.heap[c]? = some (.cells cs T' fz)) (hT : T' ≠ 5) : ¬ r = some c := by
  obtain ⟨p, v, _, _, hown, _, rfl⟩ := h
  intro e
  rcases hown.2 with ⟨rfl, _⟩ | ⟨g, cap, cur, fz', rfl, _, hg, _⟩
  · simp [Value.ownBlock] at e
  · have : g = c := by simpa [Value.ownBlock] using e
    subst this
    rw [hc] at hg
    simp only [Option.some.injEq, Obj.cells.injEq] at hg
    exact hT hg.2.1
abbrev WLink (w0 : World) (r0 r : Option Nat) : Prop := r = r0 ∨ ∃ k, r = some k ∧ w0.heap.size ≤ k
theorem WLink.step {S : Nat → Prop} (h : WLink w0 r0 r) (K : Keeps S w0 w) (n : r' = r ∨ ∃ k, r' = some k ∧ w.heap.size ≤ k) : WLink w0 r0 r' := by
  rcases n with rfl | ⟨k, rfl, hk⟩
  · exact h
  · exact .inr ⟨k, rfl, Nat.le_trans K.size hk⟩
theorem WLink.own (h : WLink w0 none r) (z : w0.heap.size ≤ b) (S : Nat → Prop) : ∀ i, i < w0.heap.size → (i = b ∨ r = some i) → S i := fun i hi e => by
  rcases e with rfl | e
  · omega
  · rcases h with rfl | ⟨k, rfl, hk⟩
    · cases e
    · cases e; omega
theorem BuR.newW (h : w.heap[b]? = some (.cells #[.pointer none, .slice none 0 0] T (0, 0))) : BuR T 0 b none [] w :=
  ⟨_, _, .inl rfl, h, World.ownsRowF_nil _ _ _ _, by simp [Value.ownBlock], rfl⟩
end
end Go.Proofs.YtnkkbeafcfjkmaaGreatDoor
namespace Go.Proofs.YtnkkbeafcfjkmaaGreatDoor
open Go.RowKit
set_option linter.unusedVariables false
set_option linter.unusedSimpArgs false
theorem WL.newF {P : Program} {ops : Array Oper} {n : Md} {Q : Exit → Act → World → Prop} {rest : List Oper} {fr : Fr} {w : World} {o : Oper} {d : Nat} {T : TypeId} (cs : Array Value) (f : Nat → Value) (hw : want ops fr o = some true := by kernel_rfl) (hs : okOps fr o = true := by kernel_rfl) (hd : o.dst = some d := by kernel_rfl) (hn : Nat.blt d n.n = true := by kernel_rfl)
    (hr : (execOp (evf fr) o).run P w = .ok (.value (f w.heap.size)) (w.alloc (.cells cs T)) := by kernel_rfl)
    (k : ∀ (b : Nat) (w' : World), w.heap.size ≤ b → w'.heap[b]? = some (.cells cs T (0, 0)) → Adds w w' → WL P ops n Q rest ((d, f b) :: fr) w') : WL P ops n Q (o :: rest) fr w :=
  WL.opW _ hw hs hr hd hn (k _ _ (Nat.le_refl _) (heap_alloc_new' w _) ((Keeps.refl _ w).alloc _))
def oev (fr : Fr) : Option Operand → Option (Option Value)
  | none => some none
  | some x => match ev fr x with
    | some v => some (some v)
    | none => none
theorem FrOk.oeval {n : Md} {fr : Fr} {a : Act} (h : FrOk n fr a) {x : Option Operand} {v : Option Value} (he : oev fr x = some v) : x.map a.eval = v := by
  cases x with
  | none => simpa [oev] using he
  | some x =>
    simp only [oev] at he
    cases hx : ev fr x with
    | none => simp [hx] at he
    | some u => simp only [hx, Option.some.injEq] at he; simp [h.eval hx, he]
section
variable {P : Program} {ops : Array Oper} {n : Md} {Q : Exit → Act → World → Prop} {rest : List Oper} {fr : Fr} {w : World} {C : World → Prop} {Z : Act → Prop}
theorem run_idx {T E : TypeId} {m b o len cap : Nat} {kk : IntKind} {i : Int} (hT : P.underlying T = some (.slice E)) (hE : (P.info? E).map (·.size) = some m) (h0 : 0 ≤ i) (h1 : i < len) :
    (Instr.indexAt T (.slice (some ⟨b, o, none⟩) len cap) (.int kk i)).run P w = .ok (.pointer (some ⟨b, o + i.toNat * m, none⟩)) w := by
  obtain ⟨j, hj, hjs⟩ := Option.map_eq_some_iff.1 hE
  have ha : (⟨b, o, none⟩ : Addr).add (i.toNat * m) = ⟨b, o + i.toNat * m, none⟩ := by
    unfold Addr.add; split <;> simp_all
  simp [Instr.indexAt, asIntOf, run_underlying hT, h0, h1, sizeOf, typeInfo, hj, hjs, ha]
theorem WL.idx {T E : TypeId} {m b o len cap d : Nat} {kk : IntKind} {i : Int} {x y : Operand} {ty : TypeId} {ps : String} {af : Array Edge} {g : Option (Nat × Bool)} (h0 : 0 ≤ i) (h1 : i < len) (hT : P.underlying T = some (.slice E) := by kernel_rfl) (hE : (P.info? E).map (·.size) = some m := by kernel_rfl)
    (hw : want ops fr ⟨some d, .indexAddr T x y, ty, ps, af, g⟩ = some true := by kernel_rfl) (hx : ev fr x = some (.slice (some ⟨b, o, none⟩) len cap) := by kernel_rfl) (hy : ev fr y = some (.int kk i) := by kernel_rfl) (hn : Nat.blt d n.n = true := by kernel_rfl)
    (k : WL P ops n Q rest ((d, .pointer (some ⟨b, o + i.toNat * m, none⟩)) :: fr) w) : WL P ops n Q (⟨some d, .indexAddr T x y, ty, ps, af, g⟩ :: rest) fr w :=
  WL.wanted hw fun a ha K hK => by
    unfold Oper.wp
    simp only [execOp, ha.eval hx, ha.eval hy, Sem.run_bind, run_idx hT hE h0 h1, Result.andThen_ok, Sem.run_pure, Oper.upon_value]
    exact hK _ _ (k _ (ha.put hn _))
theorem WQ.idx {T E : TypeId} {m b o len cap d : Nat} {kk : IntKind} {i : Int} {x y : Operand} {ty : TypeId} {ps : String} {af : Array Edge} {g : Option (Nat × Bool)} (h0 : 0 ≤ i) (h1 : i < len) (hT : P.underlying T = some (.slice E) := by kernel_rfl) (hE : (P.info? E).map (·.size) = some m := by kernel_rfl)
    (hw : want ops fr ⟨some d, .indexAddr T x y, ty, ps, af, g⟩ = some true := by kernel_rfl) (hx : ev fr x = some (.slice (some ⟨b, o, none⟩) len cap) := by kernel_rfl) (hy : ev fr y = some (.int kk i) := by kernel_rfl) (hn : Nat.blt d n.n = true := by kernel_rfl)
    (k : WQ P ops n C Z rest ((d, .pointer (some ⟨b, o + i.toNat * m, none⟩)) :: fr)) : WQ P ops n C Z (⟨some d, .indexAddr T x y, ty, ps, af, g⟩ :: rest) fr :=
  WQ.wanted hw fun a ha K hK => ⟨_, fun w _ => by
    unfold Oper.quietAt
    simp only [execOp, ha.eval hx, ha.eval hy, Sem.run_bind, run_idx hT hE h0 h1, Result.andThen_ok, Sem.run_pure, Oper.quietUpon, and_self], hK _ (k _ (ha.put hn _))⟩
theorem WL.wr {T : TypeId} {x y : Operand} {p : Addr} {v : Value} {w' : World} {ty : TypeId} {ps : String} {af : Array Edge} {g : Option (Nat × Bool)} (hs : (storeVar T p v).run P w = .ok () w' := by kernel_rfl)
    (hw : want ops fr ⟨none, .store T x y, ty, ps, af, g⟩ = some true := by kernel_rfl) (he : ev fr x = some (.pointer (some p)) := by kernel_rfl) (hv : ev fr y = some v := by kernel_rfl) (k : WL P ops n Q rest fr w') : WL P ops n Q (⟨none, .store T x y, ty, ps, af, g⟩ :: rest) fr w :=
  WL.wanted hw fun a ha K hK => by
    unfold Oper.wp
    simp only [execOp, ha.eval he, ha.eval hv, Instr.storeAt, Instr.sureAddr, Sem.run_bind, Sem.run_pure, Result.andThen_ok, hs, Oper.upon_skip]
    exact hK _ _ (k _ ha)
end
def BytesAt (b : Nat) (l : List UInt8) (c : Nat) (w : World) : Prop := l.length ≤ c ∧ w.heap[b]? = some (.cells (Lib.byteCells l ++ List.replicate (c - l.length) (Value.int .u8 0)).toArray 5 (c, c + 1))
section
variable {b c : Nat} {l : List UInt8} {w w' : World}
theorem BytesAt.lt (h : BytesAt b l c w) : b < w.heap.size := lt_of_heap h.2
theorem BytesAt.keeps {S : Nat → Prop} (h : BytesAt b l c w) (k : Keeps S w w') (hn : ¬ S b) : BytesAt b l c w' := ⟨h.1, k.heap h.2 hn⟩
end
theorem foldl_push : ∀ (l : List UInt8) (s : ByteArray), ((l.map fun c => (c.toNat : Int)).foldl (fun r n => r.push (UInt8.ofNat n.toNat)) s) = s ++ ⟨l.toArray⟩
  | [], s => by
    apply ByteArray.ext; apply Array.ext'; simp
  | c :: l, s => by
    simp only [List.map_cons, List.foldl_cons, foldl_push l]
    apply ByteArray.ext; apply Array.ext'
    simp
theorem run_ofBytes {P : Program} {w : World} {T S E b n c : Nat} {cs : Array Value} {fz : Nat × Nat} {l : List UInt8} (hT : P.underlying T = some (.slice E)) (hE : P.underlying E = some (.int .u8)) (hS : P.underlying S = some .string) (hb : w.heap[b]? = some (.cells cs E fz)) (hl : l.length = n) (hcs : cs.toList.take n = Lib.byteCells l) :
    (convert T S (.slice (some ⟨b, 0, none⟩) n c)).run P w = .ok (.string ⟨l.toArray⟩) w := by
  rw [run_convert_bytes_string w T S E _ _ _ hT hE hS]
  have hlen : n ≤ cs.size := by
    have := congrArg List.length hcs
    simp [Lib.byteCells] at this
    omega
  have h := run_loadCellsFrom (P := P) (i := 0) hb n 0 #[] (by omega)
  simp only [Nat.zero_add, List.drop_zero, hcs] at h
  rw [run_bytesToString w _ n c (l.map fun c => (c.toNat : Int)) (by
    unfold loadCells
    rw [h]
    congr 1
    apply Array.ext'
    simp [Lib.byteCells])]
  rw [foldl_push]
  congr 2
section
variable {P : Program} {ops : Array Oper} {n : Md} {Q : Exit → Act → World → Prop} {rest : List Oper} {fr : Fr} {w : World} {C : World → Prop} {Z : Act → Prop}
theorem WL.conv {T T2 : TypeId} {x : Operand} {d : Nat} {vx v : Value} {w' : World} {ty : TypeId} {ps : String} {af : Array Edge} {g : Option (Nat × Bool)} (hc : (convert T T2 vx).run P w = .ok v w')
    (hw : want ops fr ⟨some d, .convert T T2 x, ty, ps, af, g⟩ = some true := by kernel_rfl) (hx : ev fr x = some vx := by kernel_rfl) (hn : Nat.blt d n.n = true := by kernel_rfl)
    (k : WL P ops n Q rest ((d, v) :: fr) w') : WL P ops n Q (⟨some d, .convert T T2 x, ty, ps, af, g⟩ :: rest) fr w :=
  WL.wanted hw fun a ha K hK => by
    unfold Oper.wp
    simp only [execOp, ha.eval hx, Sem.run_bind, hc, Sem.run_pure, Result.andThen_ok, Oper.upon_value]
    exact hK _ _ (k _ (ha.put hn _))
theorem WL.cut {T : TypeId} {x : Operand} {lo hi mx : Option Operand} {lo' hi' mx' : Option Value} {d : Nat} {vx v : Value} {ty : TypeId} {ps : String} {af : Array Edge} {g : Option (Nat × Bool)} (hr : (Instr.sliceAt T vx lo' hi' mx').run P w = .ok v w)
    (hw : want ops fr ⟨some d, .slice T x lo hi mx, ty, ps, af, g⟩ = some true := by kernel_rfl) (hx : ev fr x = some vx := by kernel_rfl) (hlo : oev fr lo = some lo' := by kernel_rfl) (hhi : oev fr hi = some hi' := by kernel_rfl) (hmx : oev fr mx = some mx' := by kernel_rfl) (hn : Nat.blt d n.n = true := by kernel_rfl)
    (k : WL P ops n Q rest ((d, v) :: fr) w) : WL P ops n Q (⟨some d, .slice T x lo hi mx, ty, ps, af, g⟩ :: rest) fr w :=
  WL.wanted hw fun a ha K hK => by
    unfold Oper.wp
    simp only [execOp, ha.eval hx, ha.oeval hlo, ha.oeval hhi, ha.oeval hmx, Sem.run_bind, hr, Sem.run_pure, Result.andThen_ok, Oper.upon_value]
    exact hK _ _ (k _ (ha.put hn _))
theorem WQ.cut {T : TypeId} {x : Operand} {lo hi mx : Option Operand} {lo' hi' mx' : Option Value} {d : Nat} {vx v : Value} {ty : TypeId} {ps : String} {af : Array Edge} {g : Option (Nat × Bool)} (hr : ∀ w, (Instr.sliceAt T vx lo' hi' mx').run P w = .ok v w)
    (hw : want ops fr ⟨some d, .slice T x lo hi mx, ty, ps, af, g⟩ = some true := by kernel_rfl) (hx : ev fr x = some vx := by kernel_rfl) (hlo : oev fr lo = some lo' := by kernel_rfl) (hhi : oev fr hi = some hi' := by kernel_rfl) (hmx : oev fr mx = some mx' := by kernel_rfl) (hn : Nat.blt d n.n = true := by kernel_rfl)
    (k : WQ P ops n C Z rest ((d, v) :: fr)) : WQ P ops n C Z (⟨some d, .slice T x lo hi mx, ty, ps, af, g⟩ :: rest) fr :=
  WQ.wanted hw fun a ha K hK => ⟨v, fun w hC => by
    unfold Oper.quietAt
    simp only [execOp, ha.eval hx, ha.oeval hlo, ha.oeval hhi, ha.oeval hmx, Sem.run_bind, hr w, Sem.run_pure, Result.andThen_ok, Oper.quietUpon, and_self], hK _ (k _ (ha.put hn _))⟩
theorem of_bne_false {a b : Int} (h : (a != b) = false) : a = b := by simpa using h
theorem rem_run {T : TypeId} {k : IntKind} {x y : Int} (h : y ≠ 0) : (binOp .rem T (.int k x) (.int k y)).run P w = .ok (.int k (x.tmod y)) w := by
  simp [binOp, Op.intDiv, h]
theorem quo_run {T : TypeId} {k : IntKind} {x y : Int} (h : y ≠ 0) : (binOp .quo T (.int k x) (.int k y)).run P w = .ok (.int k (k.wrap (x.tdiv y))) w := by
  simp [binOp, Op.intDiv, h]
theorem bits_run {T : TypeId} {k : IntKind} {x y : Int} {op : BinOp} (h : op = .and ∨ op = .or ∨ op = .xor ∨ op = .andNot) : (binOp op T (.int k x) (.int k y)).run P w = .ok (.int k (bits op k x y)) w := by
  rcases h with rfl | rfl | rfl | rfl <;> simp [binOp, Op.intBits, bits]
theorem shr_run {T : TypeId} {k yk : IntKind} {x y : Int} {c : Int} (h0 : 0 ≤ y) (hb : y.toNat ≤ k.bits) (hc : (2 : Int) ^ y.toNat = c) : (binOp .shr T (.int k x) (.int yk y)).run P w = .ok (.int k (x / c)) w := by
  have hp : (0 : Int) ≤ 2 ^ y.toNat := Int.pow_nonneg (by decide)
  simp only [binOp, Op.shift, if_neg (Int.not_lt.2 h0), Nat.min_eq_left hb, Sem.run_pure, ← hc, Int.fdiv_eq_ediv_of_nonneg _ hp]
theorem shl_run {T : TypeId} {k yk : IntKind} {x y : Int} {c : Int} (h0 : 0 ≤ y) (hb : y.toNat ≤ k.bits) (hc : (2 : Int) ^ y.toNat = c) : (binOp .shl T (.int k x) (.int yk y)).run P w = .ok (.int k (k.wrap (x * c))) w := by
  simp only [binOp, Op.shift, if_neg (Int.not_lt.2 h0), Nat.min_eq_left hb, Sem.run_pure, hc]
theorem tmod_rng (x y : Int) (h : 0 < y) : -y < x.tmod y ∧ x.tmod y < y ∧ (0 ≤ x → 0 ≤ x.tmod y) := by
  have h2 := Int.tmod_lt_of_pos x h
  have h3 := Int.lt_tmod_of_pos x h
  exact ⟨h3, h2, fun h0 => Int.tmod_nonneg y h0⟩
theorem run_cut {T : TypeId} {l : List UInt8} {lo hi : Option Value} {a b : Nat} (hT : P.underlying T = some .string) (hlo : lo = none ∧ a = 0 ∨ ∃ k i, lo = some (.int k i) ∧ i = (a : Int)) (hhi : hi = none ∧ b = l.length ∨ ∃ k i, hi = some (.int k i) ∧ i = (b : Int)) (hab : a ≤ b) (hbl : b ≤ l.length) :
    (Instr.sliceAt T (.string ⟨l.toArray⟩) lo hi none).run P w = .ok (.string ⟨((l.take b).drop a).toArray⟩) w := by
  have hs : (⟨l.toArray⟩ : ByteArray).size = l.length := rfl
  have hcut := str_cut l a b
  rcases hlo with ⟨rfl, rfl⟩ | ⟨k, i, rfl, rfl⟩ <;> rcases hhi with ⟨rfl, rfl⟩ | ⟨k', i', rfl, rfl⟩ <;>
    simp [Instr.sliceAt, Instr.slice, run_underlying hT, Instr.sliceBounds, Instr.sliceBound, asIntOf, hs, hab, hbl, hcut]
  all_goals (try (rw [← hcut])) <;> (try rfl)
end
end Go.Proofs.YtnkkbeafcfjkmaaGreatDoor
namespace Go.Proofs.YtnkkbeafcfjkmaaGreatDoor
open Go.RowKit
set_option linter.unusedVariables false
set_option linter.unusedSimpArgs false
section
variable {P : Program} {md : Region.Mode} {ops : Array Oper} {Q : Exit → Act → World → Prop} {C : World → Prop}
def Nm (Q : Exit → Act → World → Prop) : Exit → Act → World → Prop := fun e a w => e = .normal ∧ Q .normal a w
theorem opTo {F : Fence} {m : Nat} {o : Oper} {a : Act} {w : World} {K K' : Act → World → Prop} {Q Q' : Exit → Act → World → Prop} (h : o.wpIn F m P a w K Q) (hK : ∀ a w, K a w → K' a w) (hQ : ∀ e a w, Q e a w → e = .normal) : o.wpIn F m P a w K' Q' := by
  refine ⟨h.1, ?_⟩
  have h := h.2
  generalize (o.semAt F.round a.eval).run P w = r at *
  cases r with
  | ok x w' =>
    cases x <;> simp only [Oper.uponIn] at h ⊢
    case value u => exact hK _ _ h
    case skip => exact hK _ _ h
    case defer d => exact hK _ _ h
    case enter f args =>
      refine ⟨h.1, CallsIn.mono h.2 (fun e w'' he => ?_)⟩
      cases e with
      | returned u => exact hK _ _ he
      | panicked c => exact absurd (hQ _ _ _ he) (by simp)
      | outgrown => obtain ⟨a0, w0, h0⟩ := he; exact absurd (hQ _ _ _ h0) (by simp)
    case row f args => exact ⟨h.1, RowsIn.mono h.2 (fun u w'' he => hK _ _ he)⟩
    case round l f ts asg b =>
      refine ⟨h.1, RoundIn.mono h.2 (fun e w'' he => ?_)⟩
      cases e with
      | returned u => exact hK _ _ he
      | panicked c => exact absurd (hQ _ _ _ he) (by simp)
      | outgrown => obtain ⟨a0, w0, h0⟩ := he; exact absurd (hQ _ _ _ h0) (by simp)
  | halt x w' =>
    cases x <;> simp only [Oper.uponIn] at h ⊢
    exact absurd (hQ _ _ _ h) (by simp)
theorem nm_normal (e : Exit) (a : Act) (w : World) (h : Nm Q e a w) : e = .normal := h.1
theorem wpOpIn_nm {R0 : Option Nat} {i : Nat} {K : Act → World → Prop} {a : Act} {w : World} (h : wpOpIn (fz R0) 0 P ops (Nm Q) i K a w) : wpOpIn (fz R0) 0 P ops Q i K a w := by
  unfold wpOpIn at *
  split
  · rename_i h0; simpa only [h0] using h
  · rename_i o ho
    simp only [ho] at h
    split
    · rename_i hw
      simp only [hw, if_true] at h
      exact opTo h (fun _ _ h => h) nm_normal
    · rename_i hw; simp only [hw] at h; exact h
def YieldsC (P : Program) (ops : Array Oper) (C : World → Prop) (o : Oper) (v : Value) (a : Act) : Prop :=
  (Region.wanted o (yielded ops a.tmps) = true ∧ ∀ w, C w → (execOp a.eval o).run P w = .ok (.value v) w) ∨ (Region.wanted o (yielded ops a.tmps) = false ∧ v = undef)
theorem YieldsC.wpOp {R0 : Option Nat} {i : Nat} {o : Oper} {v : Value} {a : Act} (nd : Nds ops) (hi : ops[i]? = some o) (hy : YieldsC P ops C o v a) {K : Act → World → Prop} {w : World} (hw : C w) (h : K (a.put o.dst v) w) : wpOpIn (fz R0) 0 P ops Q i K a w := by
  unfold Go.wpOpIn
  simp only [hi]
  rcases hy with ⟨hq, hv⟩ | ⟨hq, rfl⟩
  · simp only [hq, if_true]; exact opLift (nd i o hi) (by unfold Oper.wp; rw [hv w hw]; exact h)
  · simp only [hq, Bool.false_eq_true, if_false]; exact ⟨fun _ _ => trivial, h⟩
theorem YieldsC.same {o : Oper} {v : Value} {a a' : Act} (hy : YieldsC P ops C o v a) (he : execOp a'.eval o = execOp a.eval o) (hw : Region.wanted o (yielded ops a'.tmps) = Region.wanted o (yielded ops a.tmps)) : YieldsC P ops C o v a' := by
  unfold YieldsC at *; rw [he, hw]; exact hy
theorem nd_sel {o : Oper} (h : notSel o.op = true) : ∀ cs b, o.op ≠ .select cs b := fun cs b e => by rw [e] at h; simp [notSel] at h
theorem nd_def {o : Oper} (h : notSel o.op = true) : ∀ c, o.op ≠ .defer c := fun c e => by rw [e] at h; simp [notSel] at h
theorem wpOp_putC {R0 : Option Nat} {j : Nat} {oi oj : Oper} {v : Value} (hj : ops[j]? = some oj) (hap : oi.apart ops oj = true) (ndi : notSel oi.op = true) (ndj : notSel oj.op = true) {K : Act → World → Prop} {a : Act} {w : World}
    (hy : YieldsC P ops C oi v a) (h : wpOpIn (fz R0) 0 P ops (Nm Q) j K (a.put oi.dst v) w) : wpOpIn (fz R0) 0 P ops (Nm Q) j (fun a' w' => YieldsC P ops C oi v a' ∧ K (a'.put oi.dst v) w') a w := by
  obtain ⟨h1, h2, h3⟩ := Oper.apart_spec hap
  have keep : ∀ (a : Act), YieldsC P ops C oi v a → ∀ u, YieldsC P ops C oi v (a.put oj.dst u) := fun a hy u => hy.same (execOp_put oi (nd_sel ndi) a oj.dst u h3) (wanted_put oi a oj.dst u h3)
  unfold wpOpIn at *
  simp only [hj] at *
  rw [wanted_put oj a oi.dst v h1] at h
  split
  · rename_i hw
    simp only [hw, if_true] at h
    refine ⟨fun _ _ => trivial, ?_⟩
    have h := h.2
    rw [Oper.semAt_eq _ _ _ (nd_def ndj)] at h ⊢
    rw [execOp_put oj (nd_sel ndj) a oi.dst v h1] at h
    generalize (execOp a.eval oj).run P w = r at *
    cases r with
    | ok x w' =>
      cases x <;> simp only [Oper.uponIn] at h ⊢
      case value u => exact ⟨keep a hy _, by rw [← Act.put_comm a v u h2]; exact h⟩
      case skip => exact ⟨keep a hy _, by rw [← Act.put_comm a v undef h2]; exact h⟩
      case defer d =>
        have e : ({ a.put oi.dst v with defers := d :: (a.put oi.dst v).defers } : Act) = ({ a with defers := d :: a.defers } : Act).put oi.dst v := by cases oi.dst <;> rfl
        rw [e] at h
        exact ⟨keep { a with defers := d :: a.defers } (hy.same rfl rfl) undef, by rw [← Act.put_comm _ v undef h2]; exact h⟩
      case enter f args =>
        refine ⟨h.1, CallsIn.mono h.2 (fun e w'' he => ?_)⟩
        cases e with
        | returned u => exact ⟨keep a hy _, by rw [← Act.put_comm a v u h2]; exact he⟩
        | panicked c => exact absurd he.1 (by simp)
        | outgrown => obtain ⟨a0, w0, h0, _⟩ := he; cases h0
      case row f args => exact ⟨h.1, RowsIn.mono h.2 (fun u w'' he => ⟨keep a hy _, by rw [← Act.put_comm a v u h2]; exact he⟩)⟩
      case round l f ts asg b =>
        refine ⟨h.1, RoundIn.mono h.2 (fun e w'' he => ?_)⟩
        cases e with
        | returned u => exact ⟨keep a hy _, by rw [← Act.put_comm a v u h2]; exact he⟩
        | panicked c => exact absurd he.1 (by simp)
        | outgrown => obtain ⟨a0, w0, h0, _⟩ := he; cases h0
    | halt x w' =>
      cases x <;> simp only [Oper.uponIn] at h ⊢
      exact absurd h.1 (by simp)
  · rename_i hw
    simp only [hw] at h
    exact ⟨fun _ _ => trivial, keep a hy _, by rw [← Act.put_comm a v undef h2]; exact h.2⟩
theorem getDf_set {l : Array Bool} {i j : Nat} (h : i ≠ j) : (l.setIfInBounds i true).getD j false = l.getD j false := by simp [Array.getD_eq_getD_getElem?, Array.getElem?_setIfInBounds_ne h]
def AnyW (R0 : Option Nat) (P : Program) (md : Region.Mode) (ops : Array Oper) (Q : Exit → Act → World → Prop) (C : World → Prop) (last : Nat) : Nat → Array Bool → Act → World → Prop
  | 0, listed, a, w => Region.ready md ops listed = [] ∧ Q .normal a w
  | f + 1, listed, a, w => (Region.ready md ops listed = [] → Q .normal a w) ∧ ∀ i ∈ Region.ready md ops listed, wpOpIn (fz R0) 0 P ops (Nm Q) i (fun a' w' => (listed.getD last false = false → i ≠ last → C w') ∧ AnyW R0 P md ops Q C last f (listed.setIfInBounds i true) a' w') a w
theorem AnyW.any {R0 : Option Nat} {last : Nat} : ∀ (f : Nat) (listed : Array Bool) (a : Act) (w : World), AnyW R0 P md ops Q C last f listed a w → wpAnyIn (fz R0) 0 P md ops Q f listed a w
  | 0, _, _, _, h => h
  | f + 1, _, _, _, h => ⟨h.1, fun i hi => wpOpIn_mono (fun a' w' h' => AnyW.any f _ a' w' h'.2) (wpOpIn_nm (h.2 i hi))⟩
theorem AnyW.first {R0 : Option Nat} {last i : Nat} {oi : Oper} {v : Value} (hi : ops[i]? = some oi) (nd : Nds ops) (hl : Region.waitsFor md ops last i = true) (hil : i ≠ last) :
    ∀ (f : Nat) (listed : Array Bool) (a : Act) (w : World), C w → listed.getD last false = false →
      (∀ j oj, ops[j]? = some oj → j ≠ i → listed.getD j true = false → (∀ e ∈ oj.after, Region.binds md e = true → e.on ≠ i) → oi.apart ops oj = true) →
      i ∈ Region.ready md ops listed → YieldsC P ops C oi v a → AnyW R0 P md ops Q C last f (listed.setIfInBounds i true) (a.put oi.dst v) w → AnyW R0 P md ops Q C last (f + 1) listed a w := by
  intro f
  induction f with
  | zero =>
    intro listed a w hC hu _ hr hy H
    refine ⟨fun h => (by rw [h] at hr; cases hr), fun j hj => ?_⟩
    by_cases hji : j = i
    · subst hji; exact hy.wpOp nd hi hC ⟨fun _ _ => hC, H⟩
    · have := ready_mono hj hji
      rw [H.1] at this; cases this
  | succ f ih =>
    intro listed a w hC hu hfree hr hy H
    have hun := (mem_ready.1 hr).1
    refine ⟨fun h => (by rw [h] at hr; cases hr), fun j hj => ?_⟩
    by_cases hji : j = i
    · subst hji; exact hy.wpOp nd hi hC ⟨fun _ _ => hC, H⟩
    · obtain ⟨hjun, oj, hoj, hall⟩ := mem_ready.1 hj
      have hnot : ∀ e ∈ oj.after, Region.binds md e = true → e.on ≠ i := fun e he hb heq => by
        have h1 := hall e he hb
        rw [heq, getD_both hun] at h1; cases h1
      have hjl : j ≠ last := fun h => by
        subst h
        obtain ⟨o', ho', e, he, hb, hon⟩ := Region.waitsFor_spec hl
        rw [hoj] at ho'; cases ho'
        exact hnot e he hb hon
      refine wpOpIn_mono (fun a' w' h3 => ⟨fun _ hj => h3.2.1 (by rw [getDf_set hil]; exact hu) hj, ?_⟩) (wpOp_putC hoj (hfree j oj hoj hji hjun hnot) (nd i oi hi) (nd j oj hoj) hy (H.2 j (ready_mono hj hji)))
      refine ih _ a' w' (h3.2.1 (by rw [getDf_set hil]; exact hu) hjl) (by rw [getDf_set hjl]; exact hu) (fun k ok hk hki hun' hno => hfree k ok hk hki ?_ hno) (ready_mono hr (Ne.symm hji)) h3.1 ?_
      · by_cases hjk : j = k
        · subst hjk; exact hjun
        · rw [getD_set_ne true hjk] at hun'; exact hun'
      · rw [Array.setIfInBounds_comm _ _ hji]
        exact h3.2.2
end
section
variable {P : Program} {ops : Array Oper} {n : Md} {Q : Exit → Act → World → Prop} {C : World → Prop} {last f : Nat} {listed : Array Bool} {fr : Fr} {w : World}
def WA (P : Program) (ops : Array Oper) (n : Md) (Q : Exit → Act → World → Prop) (C : World → Prop) (last f : Nat) (listed : Array Bool) (fr : Fr) (w : World) : Prop := ∀ a, FrOk n fr a → AnyW n.R P .any ops Q C last f listed a w
def Nxt (R0 : Option Nat) (P : Program) (ops : Array Oper) (Q : Exit → Act → World → Prop) (C : World → Prop) (last f : Nat) (listed : Array Bool) (i : Nat) : Exit → Act → World → Prop := fun e a w => e = .normal ∧ (listed.getD last false = false → i ≠ last → C w) ∧ AnyW R0 P .any ops Q C last f (listed.setIfInBounds i true) a w
def ndsB (ops : Array Oper) : Bool := ops.toList.all fun o => notSel o.op
theorem ndsB_spec (h : ndsB ops = true) : Nds ops := fun j o hj => List.all_eq_true.1 h o (by
  have := List.mem_of_getElem? (l := ops.toList) (i := j) (a := o) (by simpa using hj)
  exact this)
def freeB (ops : Array Oper) (listed : Array Bool) (last i : Nat) : Bool := (Region.ready .any ops listed).contains i && Region.free .any ops listed i && Region.waitsFor .any ops last i && !(i == last) && !(listed.getD last false)
theorem WA.quiet (i : Nat) {oi : Oper} {d : Nat} (v : Value) (hC : C w) (hr : ∀ w, C w → (execOp (evf fr) oi).run P w = .ok (.value v) w := by intro _ _; kernel_rfl)
    (hs : ndsB ops = true := by kernel_rfl) (hi : ops[i]? = some oi := by kernel_rfl) (hf : freeB ops listed last i = true := by kernel_rfl) (hw : want ops fr oi = some true := by kernel_rfl) (ho : okOps fr oi = true := by kernel_rfl) (hd : oi.dst = some d := by kernel_rfl) (hn : Nat.blt d n.n = true := by kernel_rfl)
    (k : WA P ops n Q C last f (listed.setIfInBounds i true) ((d, v) :: fr) w) : WA P ops n Q C last (f + 1) listed fr w := fun a ha => by
  simp only [freeB, Bool.and_eq_true, Bool.not_eq_true', beq_eq_false_iff_ne] at hf
  obtain ⟨⟨⟨⟨h1, h2⟩, h3⟩, h4⟩, h5⟩ := hf
  refine AnyW.first (v := v) hi (ndsB_spec hs) h3 h4 f listed a w hC h5 (Region.free_spec hi h2) (by simpa using h1) (.inl ⟨ha.want hw, fun w' hw' => ?_⟩) ?_
  · rw [ha.exec ho]; exact hr w' hw'
  · rw [hd]; exact k _ (ha.put hn v)
theorem WA.quietR (i : Nat) {oi : Oper} {d : Nat} (v : Value) (hC : C w) (hr : ∀ a, FrOk n fr a → ∀ w, C w → (execOp a.eval oi).run P w = .ok (.value v) w)
    (hs : ndsB ops = true := by kernel_rfl) (hi : ops[i]? = some oi := by kernel_rfl) (hf : freeB ops listed last i = true := by kernel_rfl) (hw : want ops fr oi = some true := by kernel_rfl) (hd : oi.dst = some d := by kernel_rfl) (hn : Nat.blt d n.n = true := by kernel_rfl)
    (k : WA P ops n Q C last f (listed.setIfInBounds i true) ((d, v) :: fr) w) : WA P ops n Q C last (f + 1) listed fr w := fun a ha => by
  simp only [freeB, Bool.and_eq_true, Bool.not_eq_true', beq_eq_false_iff_ne] at hf
  obtain ⟨⟨⟨⟨h1, h2⟩, h3⟩, h4⟩, h5⟩ := hf
  refine AnyW.first hi (ndsB_spec hs) h3 h4 f listed a w hC h5 (Region.free_spec hi h2) (by simpa using h1) (.inl ⟨ha.want hw, fun w' hw' => hr a ha w' hw'⟩) ?_
  rw [hd]; exact k _ (ha.put hn v)
theorem WX.rw {e : Exit} {t : Nat} {u v : Value} (hu : u = v) (he : look fr t = some u := by kernel_rfl) (k : WX n Q e ((t, v) :: fr) w) : WX n Q e fr w := fun a ha => k a (ha.rw he hu)
theorem WA.rw {t : Nat} {u v : Value} (hu : u = v) (he : look fr t = some u := by kernel_rfl) (k : WA P ops n Q C last f listed ((t, v) :: fr) w) : WA P ops n Q C last f listed fr w := fun a ha => k a (ha.rw he hu)
theorem exec_load {T d : Nat} {x : Operand} {p : Addr} {v : Value} {ty : TypeId} {ps : String} {af : Array Edge} {g : Option (Nat × Bool)} (hl : ∀ w, C w → (loadVar T p).run P w = .ok v w) (he : ev fr x = some (.pointer (some p)) := by kernel_rfl) :
    ∀ a, FrOk n fr a → ∀ w, C w → (execOp a.eval ⟨some d, .load T x, ty, ps, af, g⟩).run P w = .ok (.value v) w := fun a ha w hw => by
  simp only [execOp, ha.eval he, Instr.loadAt, Instr.sureAddr, Sem.run_bind, Sem.run_pure, Result.andThen_ok, hl w hw]
theorem exec_bin {B : BinOp} {T T2 d : Nat} {x y : Operand} {vx vy v : Value} {ty : TypeId} {ps : String} {af : Array Edge} {g : Option (Nat × Bool)} (hb : ∀ w, (binOp B T vx vy).run P w = .ok v w) (hg : ∀ w, (eqGuard B T x y vx vy).run P w = .ok () w := by intro _; kernel_rfl) (hx : ev fr x = some vx := by kernel_rfl) (hy : ev fr y = some vy := by kernel_rfl) :
    ∀ a, FrOk n fr a → ∀ w, C w → (execOp a.eval ⟨some d, .binOp B T x y T2, ty, ps, af, g⟩).run P w = .ok (.value v) w := fun a ha w hw => by
  simp only [execOp, ha.eval hx, ha.eval hy, Sem.run_bind, hg w, Sem.run_pure, Result.andThen_ok, hb w]
theorem exec_idx {T E : TypeId} {m b o len cap d : Nat} {kk : IntKind} {i : Int} {x y : Operand} {ty : TypeId} {ps : String} {af : Array Edge} {g : Option (Nat × Bool)} (h0 : 0 ≤ i) (h1 : i < len) (hT : P.underlying T = some (.slice E) := by kernel_rfl) (hE : (P.info? E).map (·.size) = some m := by kernel_rfl) (hx : ev fr x = some (.slice (some ⟨b, o, none⟩) len cap) := by kernel_rfl) (hy : ev fr y = some (.int kk i) := by kernel_rfl) :
    ∀ a, FrOk n fr a → ∀ w, C w → (execOp a.eval ⟨some d, .indexAddr T x y, ty, ps, af, g⟩).run P w = .ok (.value (.pointer (some ⟨b, o + i.toNat * m, none⟩))) w := fun a ha w hw => by
  simp only [execOp, ha.eval hx, ha.eval hy, Sem.run_bind, run_idx hT hE h0 h1, Result.andThen_ok, Sem.run_pure]
theorem exec_cut {T d : Nat} {x : Operand} {lo hi mx : Option Operand} {lo' hi' mx' : Option Value} {vx v : Value} {ty : TypeId} {ps : String} {af : Array Edge} {g : Option (Nat × Bool)} (hr : ∀ w, (Instr.sliceAt T vx lo' hi' mx').run P w = .ok v w) (hx : ev fr x = some vx := by kernel_rfl) (hlo : oev fr lo = some lo' := by kernel_rfl) (hhi : oev fr hi = some hi' := by kernel_rfl) (hmx : oev fr mx = some mx' := by kernel_rfl) :
    ∀ a, FrOk n fr a → ∀ w, C w → (execOp a.eval ⟨some d, .slice T x lo hi mx, ty, ps, af, g⟩).run P w = .ok (.value v) w := fun a ha w hw => by
  simp only [execOp, ha.eval hx, ha.oeval hlo, ha.oeval hhi, ha.oeval hmx, Sem.run_bind, hr w, Sem.run_pure, Result.andThen_ok]
theorem WA.step (i : Nat) {o : Oper} (hr : Region.ready .any ops listed = [i] := by kernel_rfl) (hi : ops[i]? = some o := by kernel_rfl)
    (k : WL P ops n (Nxt n.R P ops Q C last f listed i) [o] fr w) : WA P ops n Q C last (f + 1) listed fr w := fun a ha => by
  have h := k a ha
  refine ⟨fun h0 => (by rw [hr] at h0; cases h0), fun j hj => ?_⟩
  rw [hr] at hj
  have hji : j = i := by simpa using hj
  subst hji
  unfold wpOpIn
  simp only [hi]
  simp only [wpListIn] at h
  split
  · rename_i hw
    rw [if_pos hw] at h
    exact opTo h (fun _ _ h => h.2) (fun _ _ _ h => h.1)
  · rename_i hw
    rw [if_neg hw] at h
    exact ⟨fun _ _ => trivial, h.2.2⟩
theorem WX.nxt {i : Nat} (hC : C w) (k : WA P ops n Q C last f (listed.setIfInBounds i true) fr w) : WX n (Nxt n.R P ops Q C last f listed i) .normal fr w := fun a ha => ⟨rfl, fun _ _ => hC, k a ha⟩
theorem WX.nxtL (k : WA P ops n Q C last f (listed.setIfInBounds last true) fr w) : WX n (Nxt n.R P ops Q C last f listed last) .normal fr w := fun a ha => ⟨rfl, fun _ h => absurd rfl h, k a ha⟩
theorem WA.done (hr : Region.ready .any ops listed = [] := by kernel_rfl) (k : WX n Q .normal fr w) : WA P ops n Q C last 0 listed fr w := fun a ha => ⟨hr, k a ha⟩
theorem WC.mixed {id : Nat} {l : List Oper} (S : Nat → Prop) (last : Nat) (hm : P.follows .mixedOrders = true := by kernel_rfl) (k : ∀ w1, Adds w w1 → WA P l.toArray n Q (Keeps S w1) last l.length (Array.replicate l.length false) fr w1) : WC P n Q (.region id l.toArray true) fr w := fun a ha => by
  refine wpIn_region_any hm ?_
  have h := AnyW.any _ _ _ _ (k { w with drawn := w.drawn + 1 } ((Keeps.refl _ w).drew) a ha)
  simpa using h
end
end Go.Proofs.YtnkkbeafcfjkmaaGreatDoor
namespace Go.Proofs.YtnkkbeafcfjkmaaGreatDoor
open Go.RowKit
set_option linter.unusedVariables false
set_option linter.unusedSimpArgs false
theorem addr_add (b o j : Nat) : (⟨b, o, none⟩ : Addr).add j = ⟨b, o + j, none⟩ := by
  unfold Addr.add; split
  · rename_i h; rw [h]; rfl
  · rfl
structure EK {α : Type} (cl : α → List Value) (m : Nat) (E : TypeId) : Prop where
  len : ∀ x, (cl x).length = m
  one : ∀ x, ∀ u ∈ cl x, u.oneCell' = true
  pos : 0 < m
  info : ∃ i z, Tryz.prog.info? E = some i ∧ i.zero = some z ∧ i.size = m ∧ z.cells.size = m ∧ i.bytes ≤ 512
def SlAt {α : Type} (cl : α → List Value) (m : Nat) (E : TypeId) (A : Option Addr) (xs : List α) (w : World) : Prop :=
  xs = [] ∨ ∃ b o cs E' fz, A = some ⟨b, o, none⟩ ∧ w.heap[b]? = some (.cells cs E' fz) ∧ o + xs.length * m ≤ cs.size ∧ ∀ (i : Nat) r, xs[i]? = some r → (cs.toList.drop (o + i * m)).take m = cl r
def ElAt {α : Type} (cl : α → List Value) (m : Nat) (E : TypeId) (b p : Nat) (r : α) (w : World) : Prop := ∃ cs E' fz, w.heap[b]? = some (.cells cs E' fz) ∧ p + m ≤ cs.size ∧ (cs.toList.drop p).take m = cl r
def OwAt {α : Type} (cl : α → List Value) (m : Nat) (E : TypeId) (A : Option Addr) (cap : Nat) (xs : List α) (w : World) : Prop := w.ownsRow 0 E m (.slice A xs.length cap) xs.length (xs.flatMap cl)
def blk (A : Option Addr) : Option Nat := A.map (·.block)
section
variable {α : Type} {cl : α → List Value} {m : Nat} {E : TypeId} {A A' : Option Addr} {cap : Nat} {xs ys : List α} {w w' : World} {S : Nat → Prop} {b p o : Nat} {r : α}
theorem SlAt.nil : SlAt cl m E A [] w := .inl rfl
theorem SlAt.keeps (h : SlAt cl m E A xs w) (k : Keeps S w w') (hn : xs ≠ [] → ∀ p, A = some p → ¬ S p.block) : SlAt cl m E A xs w' := by
  rcases h with h | ⟨b, o, cs, E', fz, hA, hb, hs, hc⟩
  · exact .inl h
  · by_cases hx : xs = []
    · exact .inl hx
    · exact .inr ⟨b, o, cs, E', fz, hA, k.heap hb (hn hx _ hA), hs, hc⟩
theorem SlAt.adds (h : SlAt cl m E A xs w) (k : Keeps (fun _ => False) w w') : SlAt cl m E A xs w' := h.keeps k (fun _ _ _ x => x)
theorem SlAt.lt (h : SlAt cl m E A xs w) (hx : xs ≠ []) : ∀ p, A = some p → p.block < w.heap.size := fun p hp => by
  rcases h with h | ⟨b, o, cs, E', fz, hA, hb, _⟩
  · exact absurd h hx
  · rw [hA] at hp; cases hp; exact lt_of_heap hb
theorem SlAt.of_lit {cs : Array Value} {fz : Nat × Nat} (hk : EK cl m E) (hb : w.heap[b]? = some (.cells cs E fz)) (hcs : cs.toList = ys.flatMap cl) : SlAt cl m E (some ⟨b, 0, none⟩) ys w := by
  have hl : ∀ l : List α, (l.flatMap cl).length = l.length * m := fun l => by
    induction l with
    | nil => simp
    | cons x l ih => simp [List.flatMap_cons, hk.len, ih, Nat.add_mul, Nat.add_comm]
  refine .inr ⟨b, 0, cs, E, fz, rfl, hb, ?_, fun i r hr => ?_⟩
  · have := congrArg List.length hcs
    rw [hl] at this
    simp at this; omega
  · rw [hcs, Nat.zero_add]
    have hi := (List.getElem?_eq_some_iff.1 hr)
    obtain ⟨hlt, he⟩ := hi
    have h1 : ys = ys.take i ++ r :: ys.drop (i + 1) := by
      rw [← he, ← List.drop_eq_getElem_cons hlt, List.take_append_drop]
    rw [h1, List.flatMap_append, List.flatMap_cons, List.drop_append_of_le_length (by rw [hl]; simp; rw [Nat.min_eq_left (Nat.le_of_lt hlt)]; exact Nat.le_refl _)]
    have h2 : ((ys.take i).flatMap cl).length = i * m := by rw [hl]; simp [Nat.min_eq_left (Nat.le_of_lt hlt)]
    rw [← h2, List.drop_length, List.nil_append, List.take_append_of_le_length (by rw [hk.len]; exact Nat.le_refl _), List.take_of_length_le (by rw [hk.len]; exact Nat.le_refl _)]
theorem SlAt.at (h : SlAt cl m E A xs w) {i : Int} (h0 : 0 ≤ i) (h1 : i < xs.length) : ∃ b o r, xs[i.toNat]? = some r ∧ A = some ⟨b, o, none⟩ ∧ ElAt cl m E b (o + i.toNat * m) r w := by
  have hlt : i.toNat < xs.length := by omega
  rcases h with h | ⟨b, o, cs, E', fz, hA, hb, hs, hc⟩
  · subst h; simp at hlt
  · refine ⟨b, o, xs[i.toNat], List.getElem?_eq_getElem hlt, hA, cs, E', fz, hb, ?_, hc _ _ (List.getElem?_eq_getElem hlt)⟩
    have : (i.toNat + 1) * m ≤ xs.length * m := Nat.mul_le_mul_right m hlt
    rw [Nat.add_mul, Nat.one_mul] at this; omega
theorem ElAt.keeps (h : ElAt cl m E b p r w) (k : Keeps S w w') (hn : ¬ S b) : ElAt cl m E b p r w' := by
  obtain ⟨cs, E', fz, hb, h1, h2⟩ := h; exact ⟨cs, E', fz, k.heap hb hn, h1, h2⟩
theorem ElAt.adds (h : ElAt cl m E b p r w) (k : Keeps (fun _ => False) w w') : ElAt cl m E b p r w' := h.keeps k id
theorem ElAt.lt (h : ElAt cl m E b p r w) : b < w.heap.size := by obtain ⟨cs, E', fz, hb, _⟩ := h; exact lt_of_heap hb
theorem ElAt.get (h : ElAt cl m E b p r w) {j : Nat} {v : Value} (hj : j < m) (hv : (cl r)[j]? = some v) : w.cell? ⟨b, p + j, none⟩ = some v := by
  obtain ⟨cs, E', fz, hb, h1, h2⟩ := h
  refine cell_at hb _ ?_
  rw [← h2, List.getElem?_take_of_lt hj, List.getElem?_drop] at hv
  simpa using hv
theorem ElAt.ldW {P : Program} {T : TypeId} (h : ElAt cl m E b p r w) (hT : agT P T = some m := by kernel_rfl) : (loadVar T ⟨b, p, none⟩).run P w = .ok (.agg (cl r).toArray) w := by
  obtain ⟨cs, E', fz, hb, h1, h2⟩ := h
  exact ldN hb hT (Nat.ble_eq_true_of_le h1) h2
theorem ElAt.ldF {P : Program} {T : TypeId} {v : Value} {off : Nat} (h : ElAt cl m E b p r w) (hj : Nat.blt off m = true := by kernel_rfl) (hv : (cl r)[off]? = some v := by kernel_rfl) (hT : scT P T = true := by kernel_rfl) : (loadVar T ⟨b, p + off, none⟩).run P w = .ok v w := by
  have hc := h.get (by simpa [Nat.blt_eq] using hj) hv
  unfold loadVar
  simp only [Sem.run_bind, run_isAgg_sc hT, Result.andThen_ok]
  simp [load, Sem.run, hc]
theorem ElAt.ld0 {P : Program} {T : TypeId} {v : Value} (h : ElAt cl m E b p r w) (hj : Nat.blt 0 m = true := by kernel_rfl) (hv : (cl r)[0]? = some v := by kernel_rfl) (hT : scT P T = true := by kernel_rfl) : (loadVar T ⟨b, p, none⟩).run P w = .ok v w := h.ldF (off := 0) hj hv hT
theorem OwAt.nil : OwAt cl m E none 0 [] w := ⟨by simp, .inl ⟨rfl, rfl⟩⟩
theorem OwAt.block (h : OwAt cl m E A cap xs w) : (A = none ∧ cap = 0 ∧ xs = []) ∨ ∃ g cur, A = some ⟨g, 0, none⟩ ∧ w.heap[g]? = some (.cells cur E (0, 0)) ∧ xs.length ≤ cap ∧ cap ≤ maxLen ∧ cur.size = cap * m ∧ cur.toList.take (xs.length * m) = xs.flatMap cl := by
  rcases h.2 with ⟨h1, h2⟩ | ⟨g, cap', cur, h1, _, hg, h3⟩
  · simp only [Value.slice.injEq] at h1
    exact .inl ⟨h1.1, h1.2.2, List.eq_nil_of_length_eq_zero h2⟩
  · simp only [Value.slice.injEq] at h1
    obtain ⟨e1, _, e3⟩ := h1
    subst e3
    exact .inr ⟨g, cur, e1, hg, h3⟩
theorem OwAt.keeps (h : OwAt cl m E A cap xs w) (k : Keeps S w w') (hn : ∀ i, blk A = some i → ¬ S i) : OwAt cl m E A cap xs w' := by
  refine ⟨h.1, ?_⟩
  rcases h.2 with h1 | ⟨g, cap', cur, h1, h2, hg, h3⟩
  · exact .inl h1
  · refine .inr ⟨g, cap', cur, h1, h2, k.heap hg (hn g ?_), h3⟩
    simp only [Value.slice.injEq] at h1
    rw [h1.1]; rfl
theorem OwAt.adds (h : OwAt cl m E A cap xs w) (k : Keeps (fun _ => False) w w') : OwAt cl m E A cap xs w' := h.keeps k (fun _ _ x => x)
theorem OwAt.lt (h : OwAt cl m E A cap xs w) : ∀ i, blk A = some i → i < w.heap.size := fun i hi => by
  rcases h.block with ⟨rfl, _⟩ | ⟨g, cur, rfl, hg, _⟩
  · simp [blk] at hi
  · simp [blk] at hi; subst hi; exact lt_of_heap hg
theorem OwAt.off_new (h : OwAt cl m E A cap xs w) (g : w.heap.size ≤ b) : ¬ blk A = some b := fun e => absurd (h.lt b e) (Nat.not_lt.2 g)
theorem off_step (n : blk A' = blk A ∨ ∃ k, blk A' = some k ∧ w.heap.size ≤ k) (h : ¬ blk A = some b) (hl : b < w.heap.size) : ¬ blk A' = some b := fun e => by
  rcases n with n | ⟨k, n, hk⟩
  · exact h (n ▸ e)
  · rw [n] at e; cases e; omega
theorem OwAt.offT {T' : TypeId} {c : Nat} {cs : Array Value} {fz : Nat × Nat} (h : OwAt cl m E A cap xs w) (hc : w.heap[c]? = some (.cells cs T' fz)) (hT : T' ≠ E) : ¬ blk A = some c := fun e => by
  rcases h.block with ⟨rfl, _⟩ | ⟨g, cur, rfl, hg, _⟩
  · simp [blk] at e
  · simp [blk] at e; subst e
    rw [hc] at hg
    simp only [Option.some.injEq, Obj.cells.injEq] at hg
    exact hT hg.2.1
theorem OwAt.sl (hk : EK cl m E) (h : OwAt cl m E A cap xs w) : SlAt cl m E A xs w := by
  rcases h.block with ⟨_, _, h1⟩ | ⟨g, cur, rfl, hg, h1, h2, h3, h4⟩
  · exact .inl h1
  · have hl : ∀ l : List α, (l.flatMap cl).length = l.length * m := fun l => by
      induction l with
      | nil => simp
      | cons x l ih => simp [List.flatMap_cons, hk.len, ih, Nat.add_mul, Nat.add_comm]
    have hle : xs.length * m ≤ cap * m := Nat.mul_le_mul_right m h1
    refine .inr ⟨g, 0, cur, E, _, rfl, hg, by omega, fun i r hr => ?_⟩
    obtain ⟨hlt, he⟩ := List.getElem?_eq_some_iff.1 hr
    have h5 : (i + 1) * m ≤ xs.length * m := Nat.mul_le_mul_right m hlt
    rw [Nat.add_mul, Nat.one_mul] at h5
    have h6 : (cur.toList.drop (0 + i * m)).take m = ((cur.toList.take (xs.length * m)).drop (i * m)).take m := by
      rw [Nat.zero_add, List.drop_take, List.take_take, Nat.min_eq_left (by omega)]
    rw [h6, h4]
    have h7 : xs = xs.take i ++ r :: xs.drop (i + 1) := by rw [← he, ← List.drop_eq_getElem_cons hlt, List.take_append_drop]
    have h8 : ((xs.take i).flatMap cl).length = i * m := by rw [hl]; simp [Nat.min_eq_left (Nat.le_of_lt hlt)]
    rw [h7, List.flatMap_append, List.flatMap_cons, ← h8, List.drop_left, List.take_append_of_le_length (by rw [hk.len]; exact Nat.le_refl _), List.take_of_length_le (by rw [hk.len]; exact Nat.le_refl _)]
theorem run_append_nil {P : Program} {T ty : TypeId} (hT : P.underlying T = some (.slice E)) {i : TypeInfo} (hi : P.info? E = some i) (h : OwAt cl m E A cap xs w) (c : Nat) :
    (Builtin.append_ #[T, T] ty #[.slice A xs.length cap, .slice none 0 c]).run P w = .ok (.slice A xs.length cap) w := by
  rcases h.block with ⟨rfl, rfl, rfl⟩ | ⟨g, cur, rfl, hg, h1, _⟩
  · simp [Builtin.append_, run_underlying hT, sizeOf, typeInfo, hi, Builtin.lenOf, Builtin.firstCells]
  · simp [Builtin.append_, run_underlying hT, sizeOf, typeInfo, hi, Builtin.lenOf, Builtin.firstCells, h1, storeCells]
theorem olink_step {w0 : World} (ol : ∀ i, blk A = some i → w0.heap.size ≤ i) (K : Keeps S w0 w) (n : blk A' = blk A ∨ ∃ k, blk A' = some k ∧ w.heap.size ≤ k) : ∀ i, blk A' = some i → w0.heap.size ≤ i := fun i hi => by
  rcases n with e | ⟨k, e, hk⟩
  · exact ol i (e ▸ hi)
  · rw [e] at hi; cases hi; exact Nat.le_trans K.size hk
theorem run_append_sl {T ty : TypeId} (hk : EK cl m E) (hT : Tryz.prog.underlying T = some (.slice E)) (h : OwAt cl m E A cap xs w) {A2 : Option Addr} (hs : SlAt cl m E A2 ys w) (c : Nat) (hb : xs.length + ys.length ≤ 100000000000) :
    ∃ A' cap' w', (Builtin.append_ #[T, T] ty #[.slice A xs.length cap, .slice A2 ys.length c]).run Tryz.prog w = .ok (.slice A' (xs ++ ys).length cap') w' ∧ OwAt cl m E A' cap' (xs ++ ys) w' ∧ Keeps (fun k => blk A = some k) w w' ∧ (blk A' = blk A ∨ ∃ k, blk A' = some k ∧ w.heap.size ≤ k) := by
  obtain ⟨i, z, hi, hz, h1, h2, h3⟩ := hk.info
  have hl : ∀ l : List α, (l.flatMap cl).length = l.length * m := fun l => by
    induction l with
    | nil => simp
    | cons x l ih => simp [List.flatMap_cons, hk.len, ih, Nat.add_mul, Nat.add_comm]
  have core : ∀ (ad : Addr), (∀ j u, (ys.flatMap cl)[j]? = some u → w.cell? (ad.add j) = some u) → ∃ A' cap' w', (Builtin.append_ #[T, T] ty #[.slice A xs.length cap, .slice (some ad) ys.length c]).run Tryz.prog w = .ok (.slice A' (xs ++ ys).length cap') w' ∧ OwAt cl m E A' cap' (xs ++ ys) w' ∧ Keeps (fun k => blk A = some k) w w' ∧ (blk A' = blk A ∨ ∃ k, blk A' = some k ∧ w.heap.size ≤ k) := by
    intro ad hc
    have hbytes : (xs.length + ys.length) * i.bytes ≤ 140737488355328 := by
      have : (xs.length + ys.length) * i.bytes ≤ 100000000000 * 512 := Nat.mul_le_mul hb h3
      omega
    obtain ⟨v', w', hr, ho, hg, _, hn⟩ := run_append_own_at (P := Tryz.prog) w 0 T ty E i z m i.bytes hT hi hz h1 rfl h2 hk.pos _ _ _ h ad ys.length c (ys.flatMap cl) (hl ys) hc (fun u hu => by
      obtain ⟨x, _, hx⟩ := List.mem_flatMap.1 hu
      exact hk.one x u hx) (by unfold maxLen; omega) hbytes (Nat.zero_le _)
    have hown : ∀ A : Option Addr, ∀ n c : Nat, (Value.slice A n c).ownBlock = blk A := fun A n c => by cases A <;> rfl
    obtain ⟨A', cap', rfl⟩ : ∃ A' cap', v' = .slice A' (xs.length + ys.length) cap' := by
      rcases ho.2 with ⟨e, e0⟩ | ⟨g, cap', cur, e, _⟩
      · exact ⟨none, 0, by rw [e]; simp; omega⟩
      · exact ⟨_, _, e⟩
    rw [hown, hown] at hn
    refine ⟨A', cap', w', by rw [hr, List.length_append], by unfold OwAt; rw [List.length_append, List.flatMap_append]; exact ho, ⟨hg.os, hg.tape, hg.output, hg.size, fun k hk' hs' => hg.block k hk' (fun e => hs' (by rw [hown] at e; exact e.symm))⟩, ?_⟩
    rcases hn with e | e
    · exact .inl e
    · exact .inr ⟨_, e, Nat.le_refl _⟩
  rcases hs with rfl | ⟨b, o, cs, E', fz, rfl, hb', hs', hc'⟩
  · cases A2 with
    | none =>
      refine ⟨A, cap, w, ?_, by simpa using h, Keeps.refl _ _, .inl rfl⟩
      have := run_append_nil (ty := ty) hT hi h c
      simpa using this
    | some ad => exact core ad (by simp)
  · refine core _ (fun j u hj => ?_)
    have hjl : j < (ys.flatMap cl).length := (List.getElem?_eq_some_iff.1 hj).1
    rw [hl] at hjl
    have hdm := Nat.div_add_mod j m
    have hmod := Nat.mod_lt j hk.pos
    have hq : j / m < ys.length := Nat.div_lt_of_lt_mul (by rw [Nat.mul_comm]; exact hjl)
    have hel := hc' _ _ (List.getElem?_eq_getElem hq)
    have h7 : ys = ys.take (j / m) ++ ys[j / m] :: ys.drop (j / m + 1) := by rw [← List.drop_eq_getElem_cons hq, List.take_append_drop]
    have h8 : ((ys.take (j / m)).flatMap cl).length = j / m * m := by rw [hl]; simp [Nat.min_eq_left (Nat.le_of_lt hq)]
    have hj2 : (cl ys[j / m])[j % m]? = some u := by
      rw [h7, List.flatMap_append, List.flatMap_cons] at hj
      rw [List.getElem?_append_right (by rw [h8, Nat.mul_comm]; omega), h8] at hj
      have e : j - j / m * m = j % m := by rw [Nat.mul_comm]; omega
      rw [e, List.getElem?_append_left (by rw [hk.len]; exact hmod)] at hj
      exact hj
    rw [addr_add b o j]
    have hE : ElAt cl m E b (o + j / m * m) ys[j / m] w := ⟨cs, E', fz, hb', by
      have : (j / m + 1) * m ≤ ys.length * m := Nat.mul_le_mul_right m hq
      rw [Nat.add_mul, Nat.one_mul] at this; omega, hel⟩
    have := hE.get hmod hj2
    rw [show o + j / m * m + j % m = o + j by rw [Nat.mul_comm (j / m)]; omega] at this
    exact this
end
section
variable {α : Type} {cl : α → List Value} {m : Nat} {E : TypeId} {ops : Array Oper} {n : Md} {Q : Exit → Act → World → Prop} {rest : List Oper} {fr : Fr} {w : World}
theorem WL.append {T : TypeId} {x y : Operand} {A A2 : Option Addr} {cap c d : Nat} {xs ys : List α} {ty : TypeId} {ps : String} {af : Array Edge} {g : Option (Nat × Bool)} (hk : EK cl m E) (h : OwAt cl m E A cap xs w) (hs : SlAt cl m E A2 ys w) (hb : xs.length + ys.length ≤ 100000000000)
    (hT : Tryz.prog.underlying T = some (.slice E) := by kernel_rfl) (hw : want ops fr ⟨some d, .call ⟨.builtin .append, #[x, y], #[T, T]⟩, ty, ps, af, g⟩ = some true := by kernel_rfl) (hx : ev fr x = some (.slice A xs.length cap) := by kernel_rfl) (hy : ev fr y = some (.slice A2 ys.length c) := by kernel_rfl) (hn : Nat.blt d n.n = true := by kernel_rfl)
    (k : ∀ A' cap' w', OwAt cl m E A' cap' (xs ++ ys) w' → Keeps (fun k => blk A = some k) w w' → (blk A' = blk A ∨ ∃ k, blk A' = some k ∧ w.heap.size ≤ k) → WL Tryz.prog ops n Q rest ((d, .slice A' (xs ++ ys).length cap') :: fr) w') : WL Tryz.prog ops n Q (⟨some d, .call ⟨.builtin .append, #[x, y], #[T, T]⟩, ty, ps, af, g⟩ :: rest) fr w :=
  WL.wanted hw fun a ha K hK => by
    obtain ⟨A', cap', w', hr, h1, h2, h3⟩ := run_append_sl (ty := ty) hk hT h hs c hb
    unfold Oper.wp
    simp only [execOp, resolve, invoke, builtin, List.map_toArray, List.map_cons, List.map_nil, ha.eval hx, ha.eval hy, Sem.run_bind, Sem.run_pure, Result.andThen_ok, hr, Oper.upon_value]
    exact hK _ _ (k A' cap' w' h1 h2 h3 _ (ha.put hn _))
end
end Go.Proofs.YtnkkbeafcfjkmaaGreatDoor
namespace Go.Proofs.YtnkkbeafcfjkmaaGreatDoor
open Go.RowKit
set_option linter.unusedVariables false
set_option linter.unusedSimpArgs false
def cutA (A : Option Addr) (c a m : Nat) : Option Addr := if c = a then A else A.map (·.add (a * m))
theorem addr_add0 (p : Addr) : p.add 0 = p := by unfold Addr.add; split <;> simp_all
section
variable {α : Type} {cl : α → List Value} {m : Nat} {E : TypeId} {A A' : Option Addr} {cap : Nat} {xs ys : List α} {w w' : World} {S : Nat → Prop} {b p o : Nat} {r : α}
theorem SlAt.cut {a b c : Nat} (h : SlAt cl m E A xs w) (hab : a ≤ b) (hb : b ≤ xs.length) (hbc : b ≤ c) : SlAt cl m E (cutA A c a m) ((xs.take b).drop a) w := by
  by_cases e : b = a
  · subst e; left; simp
  · rcases h with h | ⟨g, o, cs, E', fz, hA, hg, hs, hc⟩
    · subst h; simp at hb; omega
    · subst hA
      refine .inr ⟨g, o + a * m, cs, E', fz, ?_, hg, ?_, ?_⟩
      · unfold cutA; rw [if_neg (by omega)]; simp [addr_add]
      · have h1 : ((xs.take b).drop a).length = b - a := by simp; omega
        rw [h1]
        have h2 : b * m ≤ xs.length * m := Nat.mul_le_mul_right m hb
        have h3 : a * m + (b - a) * m = b * m := by rw [← Nat.add_mul]; congr 1; omega
        omega
      · intro i r hr
        rw [List.getElem?_drop] at hr
        have hlt := (List.getElem?_eq_some_iff.1 hr).1
        rw [List.getElem?_take_of_lt (by simp at hlt; omega)] at hr
        have := hc _ _ hr
        rw [show o + a * m + i * m = o + (a + i) * m by rw [Nat.add_mul]; omega]
        exact this
theorem SlAt.cell {A : Option Addr} {cap : Nat} (h : OwAt cl m E A cap xs w) : xs.length ≤ cap := by
  rcases h.block with ⟨_, rfl, rfl⟩ | ⟨g, cur, _, _, h, _⟩
  · simp
  · exact h
end
section
variable {P : Program} {ops : Array Oper} {n : Md} {Q : Exit → Act → World → Prop} {C : World → Prop} {last f : Nat} {listed : Array Bool} {fr : Fr} {w : World}
theorem WA.one {i : Nat} {o : Oper} (hi : ops[i]? = some o) (k : WL P ops n (Nxt n.R P ops Q C last f listed i) [o] fr w) : ∀ a, FrOk n fr a → wpOpIn (fz n.R) 0 P ops (Nm Q) i (fun a' w' => (listed.getD last false = false → i ≠ last → C w') ∧ AnyW n.R P .any ops Q C last f (listed.setIfInBounds i true) a' w') a w := fun a ha => by
  have h := k a ha
  unfold wpOpIn
  simp only [hi]
  simp only [wpListIn] at h
  split
  · rename_i hw
    rw [if_pos hw] at h
    exact opTo h (fun _ _ h => h.2) (fun _ _ _ h => h.1)
  · rename_i hw
    rw [if_neg hw] at h
    exact ⟨fun _ _ => trivial, h.2.2⟩
theorem WA.step2 (i j : Nat) {o q : Oper} (hr : Region.ready .any ops listed = [i, j] := by kernel_rfl) (hi : ops[i]? = some o := by kernel_rfl) (hj : ops[j]? = some q := by kernel_rfl)
    (k1 : WL P ops n (Nxt n.R P ops Q C last f listed i) [o] fr w) (k2 : WL P ops n (Nxt n.R P ops Q C last f listed j) [q] fr w) : WA P ops n Q C last (f + 1) listed fr w := fun a ha => by
  refine ⟨fun h0 => (by rw [hr] at h0; cases h0), fun x hx => ?_⟩
  rw [hr] at hx
  simp only [List.mem_cons, List.not_mem_nil, or_false] at hx
  rcases hx with rfl | rfl
  · exact WA.one hi k1 a ha
  · exact WA.one hj k2 a ha
end
section
variable {P : Program} {md : Region.Mode} {ops : Array Oper} {Q : Exit → Act → World → Prop} {C : World → Prop}
theorem AnyW.first2 {R0 : Option Nat} {last i : Nat} {oi : Oper} {v : Value} (hi : ops[i]? = some oi) (nd : Nds ops) (hl : ops.size ≤ last) :
    ∀ (f : Nat) (listed : Array Bool) (a : Act) (w : World), C w → listed.getD last false = false →
      (∀ j oj, ops[j]? = some oj → j ≠ i → listed.getD j true = false → (∀ e ∈ oj.after, Region.binds md e = true → e.on ≠ i) → oi.apart ops oj = true) →
      i ∈ Region.ready md ops listed → YieldsC P ops C oi v a → AnyW R0 P md ops Q C last f (listed.setIfInBounds i true) (a.put oi.dst v) w → AnyW R0 P md ops Q C last (f + 1) listed a w := by
  intro f
  induction f with
  | zero =>
    intro listed a w hC hu _ hr hy H
    refine ⟨fun h => (by rw [h] at hr; cases hr), fun j hj => ?_⟩
    by_cases hji : j = i
    · subst hji; exact hy.wpOp nd hi hC ⟨fun _ _ => hC, H⟩
    · have := ready_mono hj hji
      rw [H.1] at this; cases this
  | succ f ih =>
    intro listed a w hC hu hfree hr hy H
    have hun := (mem_ready.1 hr).1
    refine ⟨fun h => (by rw [h] at hr; cases hr), fun j hj => ?_⟩
    by_cases hji : j = i
    · subst hji; exact hy.wpOp nd hi hC ⟨fun _ _ => hC, H⟩
    · obtain ⟨hjun, oj, hoj, hall⟩ := mem_ready.1 hj
      have hnot : ∀ e ∈ oj.after, Region.binds md e = true → e.on ≠ i := fun e he hb heq => by
        have h1 := hall e he hb
        rw [heq, getD_both hun] at h1; cases h1
      have hjl : j ≠ last := fun h => by
        have := (Array.getElem?_eq_some_iff.1 hoj).1
        omega
      have hil : i ≠ last := fun h => by
        have := (Array.getElem?_eq_some_iff.1 hi).1
        omega
      refine wpOpIn_mono (fun a' w' h3 => ⟨fun _ hj => h3.2.1 (by rw [getDf_set hil]; exact hu) hj, ?_⟩) (wpOp_putC hoj (hfree j oj hoj hji hjun hnot) (nd i oi hi) (nd j oj hoj) hy (H.2 j (ready_mono hj hji)))
      refine ih _ a' w' (h3.2.1 (by rw [getDf_set hil]; exact hu) hjl) (by rw [getDf_set hjl]; exact hu) (fun k ok hk hki hun' hno => hfree k ok hk hki ?_ hno) (ready_mono hr (Ne.symm hji)) h3.1 ?_
      · by_cases hjk : j = k
        · subst hjk; exact hjun
        · rw [getD_set_ne true hjk] at hun'; exact hun'
      · rw [Array.setIfInBounds_comm _ _ hji]
        exact h3.2.2
end
section
variable {P : Program} {ops : Array Oper} {n : Md} {Q : Exit → Act → World → Prop} {C : World → Prop} {last f : Nat} {listed : Array Bool} {fr : Fr} {w : World}
def freeB2 (ops : Array Oper) (listed : Array Bool) (last i : Nat) : Bool := (Region.ready .any ops listed).contains i && Region.free .any ops listed i && Nat.ble ops.size last && !(listed.getD last false)
theorem WA.quiet2 (i : Nat) {oi : Oper} {d : Nat} (v : Value) (hC : C w) (hr : ∀ w, C w → (execOp (evf fr) oi).run P w = .ok (.value v) w := by intro _ _; kernel_rfl)
    (hs : ndsB ops = true := by kernel_rfl) (hi : ops[i]? = some oi := by kernel_rfl) (hf : freeB2 ops listed last i = true := by kernel_rfl) (hw : want ops fr oi = some true := by kernel_rfl) (ho : okOps fr oi = true := by kernel_rfl) (hd : oi.dst = some d := by kernel_rfl) (hn : Nat.blt d n.n = true := by kernel_rfl)
    (k : WA P ops n Q C last f (listed.setIfInBounds i true) ((d, v) :: fr) w) : WA P ops n Q C last (f + 1) listed fr w := fun a ha => by
  simp only [freeB2, Bool.and_eq_true, Bool.not_eq_true'] at hf
  obtain ⟨⟨⟨h1, h2⟩, h3⟩, h5⟩ := hf
  refine AnyW.first2 (v := v) hi (ndsB_spec hs) (Nat.le_of_ble_eq_true h3) f listed a w hC h5 (Region.free_spec hi h2) (by simpa using h1) (.inl ⟨ha.want hw, fun w' hw' => ?_⟩) ?_
  · rw [ha.exec ho]; exact hr w' hw'
  · rw [hd]; exact k _ (ha.put hn v)
theorem WA.quietS2 (i : Nat) {oi : Oper} {d : Nat} (hC : C w)
    (hs : ndsB ops = true := by kernel_rfl) (hi : ops[i]? = some oi := by kernel_rfl) (hf : freeB2 ops listed last i = true := by kernel_rfl) (hw : want ops fr oi = some false := by kernel_rfl) (hd : oi.dst = some d := by kernel_rfl) (hn : Nat.blt d n.n = true := by kernel_rfl)
    (k : WA P ops n Q C last f (listed.setIfInBounds i true) ((d, undef) :: fr) w) : WA P ops n Q C last (f + 1) listed fr w := fun a ha => by
  simp only [freeB2, Bool.and_eq_true, Bool.not_eq_true'] at hf
  obtain ⟨⟨⟨h1, h2⟩, h3⟩, h5⟩ := hf
  refine AnyW.first2 hi (ndsB_spec hs) (Nat.le_of_ble_eq_true h3) f listed a w hC h5 (Region.free_spec hi h2) (by simpa using h1) (.inr ⟨ha.want hw, rfl⟩) ?_
  rw [hd]; exact k _ (ha.put hn _)
theorem WA.quietR2 (i : Nat) {oi : Oper} {d : Nat} (v : Value) (hC : C w) (hr : ∀ a, FrOk n fr a → ∀ w, C w → (execOp a.eval oi).run P w = .ok (.value v) w)
    (hs : ndsB ops = true := by kernel_rfl) (hi : ops[i]? = some oi := by kernel_rfl) (hf : freeB2 ops listed last i = true := by kernel_rfl) (hw : want ops fr oi = some true := by kernel_rfl) (hd : oi.dst = some d := by kernel_rfl) (hn : Nat.blt d n.n = true := by kernel_rfl)
    (k : WA P ops n Q C last f (listed.setIfInBounds i true) ((d, v) :: fr) w) : WA P ops n Q C last (f + 1) listed fr w := fun a ha => by
  simp only [freeB2, Bool.and_eq_true, Bool.not_eq_true'] at hf
  obtain ⟨⟨⟨h1, h2⟩, h3⟩, h5⟩ := hf
  refine AnyW.first2 hi (ndsB_spec hs) (Nat.le_of_ble_eq_true h3) f listed a w hC h5 (Region.free_spec hi h2) (by simpa using h1) (.inl ⟨ha.want hw, fun w' hw' => hr a ha w' hw'⟩) ?_
  rw [hd]; exact k _ (ha.put hn v)
end
section
variable {P : Program} {n : Md} {Q : Exit → Act → World → Prop} {fr : Fr} {w : World}
theorem stepR_scope {b : Frame} {a : Act} {k : List Item} {cs : List Frame} {c : Code} : step P (lone (b.atR a (.code (.scope c) :: k)) cs w) = .next (lone (b.atR a (.code c :: .inScope c :: k)) cs w) :=
  step_lone_go (by simp [stepG, stepG.exec, Frame.atR])
theorem stepR_inScope {b : Frame} {a : Act} {k : List Item} {cs : List Frame} {c : Code} : step P (lone (b.atR a (.inScope c :: k)) cs w) = .next (lone (b.atR a k) cs w) :=
  step_lone_go (by simp [stepG, stepG.exec, Frame.atR])
theorem wpIn_scope {F : Fence} {m : Nat} {c : Code} {a : Act} (h : c.wpIn F m P (Exit.noGoto Q) a w) : (Code.scope c).wpIn F m P Q a w := by
  intro b k cs hro hb hr
  have h0 : (lone (b.atR a (.code (.scope c) :: k)) cs w).fenced P F := fenced_calm hb hr rfl
  obtain ⟨e, a₁, w₁, hq, harr⟩ := h b (.inScope c :: k) cs hro hb hr
  cases e with
  | normal => exact ⟨.normal, a₁, w₁, hq, .head h0 stepR_scope (StepsIn.trans harr (.one (fenced_calm hb hr rfl) stepR_inScope))⟩
  | exit id =>
    have hx : exitTo id (.inScope c :: k) = exitTo id k := by simp [exitTo]
    exact ⟨.exit id, a₁, w₁, hq, fun k' hk => .head h0 stepR_scope (harr.1 k' (by rw [hx]; exact hk)),
      fun hr' hk => let ⟨k₁, h1, h2⟩ := harr.2 hr' (by rw [hx]; exact hk); ⟨k₁, h1, .head h0 stepR_scope h2⟩⟩
  | goto l => exact hq.elim
  | ret => exact ⟨_, a₁, w₁, hq, .of_steps (.one h0 stepR_scope) harr⟩
  | panic ch => exact ⟨_, a₁, w₁, hq, .of_steps (.one h0 stepR_scope) harr⟩
  | outgrown => exact ⟨_, a₁, w₁, hq, .of_steps (.one h0 stepR_scope) harr⟩
theorem WC.scope {c : Code} (h : WC P n (Exit.noGoto Q) c fr w) : WC P n Q (.scope c) fr w := fun a ha => wpIn_scope (h a ha)
theorem WX.scopeN (h : WX n Q .normal fr w) : WX n (Exit.noGoto Q) .normal fr w := h
theorem WX.scopeR (h : WX n Q .ret fr w) : WX n (Exit.noGoto Q) .ret fr w := h
end
theorem OwAt.offOw {α β : Type} {cl : α → List Value} {cl' : β → List Value} {m m' : Nat} {E E' : TypeId} {A A' : Option Addr} {cap cap' : Nat} {xs : List α} {ys : List β} {w : World} (h : OwAt cl m E A cap xs w) (h' : OwAt cl' m' E' A' cap' ys w) (hE : E ≠ E') : ∀ i, blk A = some i → ¬ blk A' = some i := fun i hi e => by
  rcases h.block with ⟨rfl, _⟩ | ⟨g, cur, rfl, hg, _⟩
  · simp [blk] at hi
  · simp only [blk, Option.map_some, Option.some.injEq] at hi
    subst hi
    exact h'.offT hg hE e
theorem nlink_up {S : Nat → Prop} {A A' : Option Addr} {w0 w : World} (K : Keeps S w0 w) (n : blk A' = blk A ∨ ∃ k, blk A' = some k ∧ w.heap.size ≤ k) : blk A' = blk A ∨ ∃ k, blk A' = some k ∧ w0.heap.size ≤ k := by
  rcases n with n | ⟨k, n, hk⟩
  · exact .inl n
  · exact .inr ⟨k, n, Nat.le_trans K.size hk⟩
end Go.Proofs.YtnkkbeafcfjkmaaGreatDoor
namespace Go.Proofs.YtnkkbeafcfjkmaaGreatDoor
open Go.RowKit
set_option linter.unusedVariables false
set_option linter.unusedSimpArgs false
section
variable {α : Type} {cl : α → List Value} {m : Nat} {E : TypeId} {A : Option Addr} {cap : Nat} {xs : List α} {w w' : World}
theorem EK.flat (hk : EK cl m E) : ∀ l : List α, (l.flatMap cl).length = l.length * m
  | [] => by simp
  | x :: l => by simp [List.flatMap_cons, hk.len, EK.flat hk l, Nat.add_mul, Nat.add_comm]
theorem oneC_of (hone : ∀ x, ∀ u ∈ cl x, u.oneCell' = true) (x : α) (h : ∀ u : Value, u.oneCell' = true → oneC u = true) : (cl x).all oneC = true := List.all_eq_true.2 fun u hu => h u (hone x u hu)
theorem oneC_of' (u : Value) (h : u.oneCell' = true) : oneC u = true := by cases u <;> simp_all [oneC, Value.oneCell']
theorem OwAt.set {T : TypeId} (hk : EK cl m E) (h : OwAt cl m E A cap xs w) {b o : Nat} (hA : A = some ⟨b, o, none⟩) {i : Int} (h0 : 0 ≤ i) (h1 : i < xs.length) (x : α) (hT : (Tryz.prog.info? T).map (·.size) = some m) :
    ∃ w', (storeVar T ⟨b, o + i.toNat * m, none⟩ (.agg (cl x).toArray)).run Tryz.prog w = .ok () w' ∧ OwAt cl m E A cap (xs.set i.toNat x) w' ∧ Keeps (fun k => blk A = some k) w w' := by
  rcases h.block with ⟨rfl, _⟩ | ⟨g, cur, rfl, hg, h2, h3, h4, h5⟩
  · cases hA
  · cases hA
    have hi : i.toNat < xs.length := by omega
    have hle : (i.toNat + 1) * m ≤ xs.length * m := Nat.mul_le_mul_right m hi
    rw [Nat.add_mul, Nat.one_mul] at hle
    have hle2 : xs.length * m ≤ cap * m := Nat.mul_le_mul_right m h2
    obtain ⟨w', hr, hb', hkp⟩ := run_storeCells (P := Tryz.prog) (i := 0 + i.toNat * m) (cl x) 0 w cur hg (by rw [hk.len]; omega) (oneC_of hk.one x oneC_of')
    obtain ⟨j, hj, hjs⟩ := Option.map_eq_some_iff.1 hT
    refine ⟨w', ?_, ⟨by rw [EK.flat hk, List.length_set], .inr ⟨b, cap, _, by rw [List.length_set], Nat.zero_le _, hb', by rw [List.length_set]; exact h2, h3, ?_, ?_⟩⟩, hkp.mono fun k _ e => by simp [blk, e]⟩
    · have hsz : (Value.agg (cl x).toArray).cells.size = m := by simp [Value.cells, hk.len]
      unfold storeVar
      simp [sizeOf, typeInfo, hj, hjs, Value.cells, hk.len, hr]
      simpa using hr
    · unfold repl
      simp only [List.size_toArray, List.length_append, List.length_take, List.length_drop, hk.len, Array.length_toList]
      omega
    · unfold repl
      have hx : xs = xs.take i.toNat ++ xs[i.toNat] :: xs.drop (i.toNat + 1) := by rw [← List.drop_eq_getElem_cons hi, List.take_append_drop]
      have hlt : ((xs.take i.toNat).flatMap cl).length = i.toNat * m := by rw [EK.flat hk]; simp [Nat.min_eq_left (Nat.le_of_lt hi)]
      have ht : cur.toList.take (i.toNat * m) = (xs.take i.toNat).flatMap cl := by
        have : cur.toList.take (i.toNat * m) = (cur.toList.take (xs.length * m)).take (i.toNat * m) := by rw [List.take_take, Nat.min_eq_left (by omega)]
        rw [this, h5]
        conv => lhs; rw [hx, List.flatMap_append]
        rw [← hlt, List.take_left]
      have hd : (cur.toList.drop (i.toNat * m + m)).take (xs.length * m - (i.toNat * m + m)) = (xs.drop (i.toNat + 1)).flatMap cl := by
        rw [← List.drop_take, h5]
        conv => lhs; rw [hx, List.flatMap_append, List.flatMap_cons, ← List.append_assoc]
        have : ((xs.take i.toNat).flatMap cl ++ cl xs[i.toNat]).length = i.toNat * m + m := by rw [List.length_append, hlt, hk.len]
        rw [← this, List.drop_left]
      have hs : xs.set i.toNat x = xs.take i.toNat ++ x :: xs.drop (i.toNat + 1) := by rw [List.set_eq_take_append_cons_drop, if_pos hi]
      rw [List.length_set, hs, List.flatMap_append, List.flatMap_cons, hk.len]
      simp only [Nat.zero_add, Nat.add_zero]
      rw [ht, List.take_append, List.take_of_length_le (show ((xs.take i.toNat).flatMap cl).length ≤ xs.length * m by rw [hlt]; omega), hlt, List.take_append, List.take_of_length_le (show (cl x).length ≤ xs.length * m - i.toNat * m by rw [hk.len]; omega), hk.len, ← hd, Nat.sub_sub]
theorem OwAt.cutO (h : OwAt cl m E A cap xs w) (hk : EK cl m E) {n : Nat} (hn : n ≤ xs.length) : OwAt cl m E A cap (xs.take n) w := by
  rcases h.block with ⟨rfl, rfl, rfl⟩ | ⟨g, cur, rfl, hg, h2, h3, h4, h5⟩
  · rw [List.take_nil]; exact OwAt.nil
  · have hle : n * m ≤ xs.length * m := Nat.mul_le_mul_right m hn
    have hl : (xs.take n).length = n := by simp [hn]
    refine ⟨by rw [EK.flat hk], .inr ⟨g, cap, cur, rfl, Nat.zero_le _, hg, by rw [hl]; omega, h3, h4, ?_⟩⟩
    have hlt : ((xs.take n).flatMap cl).length = n * m := by rw [EK.flat hk, hl]
    have hx : xs.flatMap cl = (xs.take n).flatMap cl ++ (xs.drop n).flatMap cl := by rw [← List.flatMap_append, List.take_append_drop]
    have : cur.toList.take (n * m) = (cur.toList.take (xs.length * m)).take (n * m) := by rw [List.take_take, Nat.min_eq_left hle]
    rw [hl, this, h5, hx, ← hlt, List.take_left]
theorem OwAt.clear {T ty : TypeId} (hk : EK cl m E) (hT : Tryz.prog.underlying T = some (.slice E)) (h : OwAt cl m E A cap xs w) {i : Nat} (hi : i ≤ xs.length) {z : Value} (hz1 : z.cells.toList.all oneC = true) (hz2 : (Tryz.prog.info? E).map (·.zero) = some (some z)) (hz3 : z.cells.size = m) :
    ∃ w', (Builtin.clear_ #[T] ty #[.slice (cutA A cap i m) (xs.length - i) (cap - i)]).run Tryz.prog w = .ok (.tuple #[]) w' ∧ OwAt cl m E A cap (xs.take i) w' ∧ Keeps (fun k => blk A = some k) w w' := by
  by_cases hn : xs.length - i = 0
  · refine ⟨w, ?_, h.cutO hk hi, Keeps.refl _ _⟩
    rw [hn]
    cases hA : cutA A cap i m <;> simp [Builtin.clear_, run_underlying hT]
  · rcases h.block with ⟨rfl, rfl, rfl⟩ | ⟨g, cur, rfl, hg, h2, h3, h4, h5⟩
    · simp at hn
    · have hne : ¬ cap = i := by omega
      have hA : cutA (some ⟨g, 0, none⟩) cap i m = some ⟨g, 0 + i * m, none⟩ := by unfold cutA; rw [if_neg hne]; simp [addr_add]
      rw [hA]
      obtain ⟨inf, hinf, hzz⟩ := Option.map_eq_some_iff.1 hz2
      have hall : ∀ k : Nat, (Builtin.zeroCells z.cells k).toList.all oneC = true := fun k => by
        refine List.all_eq_true.2 fun u hu => ?_
        have : u ∈ z.cells.toList := by
          unfold Builtin.zeroCells at hu
          simp at hu
          simp
          obtain ⟨q, hq, rfl⟩ := hu
          rw [getElem!_pos z.cells _ (Nat.mod_lt _ (by have := hk.pos; omega))]
          exact Array.getElem_mem _
        exact List.all_eq_true.1 hz1 u this
      have hle : xs.length * m ≤ cap * m := Nat.mul_le_mul_right m h2
      have hsz : (Builtin.zeroCells z.cells (xs.length - i)).toList.length = (xs.length - i) * m := by simp [size_zeroCells, hz3]
      have hsum : i * m + (xs.length - i) * m = xs.length * m := by rw [← Nat.add_mul, Nat.add_sub_cancel' hi]
      obtain ⟨w', hr, hb', hkp⟩ := run_storeCells (P := Tryz.prog) (i := 0 + i * m) (Builtin.zeroCells z.cells (xs.length - i)).toList 0 w cur hg (by rw [hsz]; omega) (hall _)
      obtain ⟨nn, hnn⟩ : ∃ nn, xs.length - i = nn + 1 := ⟨xs.length - i - 1, by omega⟩
      have hl : (xs.take i).length = i := by simp [hi]
      refine ⟨w', ?_, ⟨by rw [EK.flat hk], .inr ⟨g, cap, _, rfl, Nat.zero_le _, hb', by rw [hl]; omega, h3, ?_, ?_⟩⟩, hkp.mono fun k _ e => by simp [blk, e]⟩
      · rw [hnn] at hr ⊢
        simp only [Nat.zero_add] at hr
        simp [Builtin.clear_, run_underlying hT, zeroValue, typeInfo, hinf, hzz, hr]
      · unfold repl
        simp only [List.size_toArray, List.length_append, List.length_take, List.length_drop, hsz, Array.length_toList]
        omega
      · unfold repl
        have hlt : ((xs.take i).flatMap cl).length = i * m := by rw [EK.flat hk, hl]
        have him : i * m ≤ xs.length * m := Nat.mul_le_mul_right m hi
        have hx : xs.flatMap cl = (xs.take i).flatMap cl ++ (xs.drop i).flatMap cl := by rw [← List.flatMap_append, List.take_append_drop]
        have ht : cur.toList.take (i * m) = (xs.take i).flatMap cl := by
          have : cur.toList.take (i * m) = (cur.toList.take (xs.length * m)).take (i * m) := by rw [List.take_take, Nat.min_eq_left him]
          rw [this, h5, hx, ← hlt, List.take_left]
        simp only [Nat.zero_add, Nat.add_zero]
        rw [hl, ht, ← hlt, List.take_left]
end
section
variable {P : Program} {ops : Array Oper} {n : Md} {Q : Exit → Act → World → Prop} {rest : List Oper} {fr : Fr} {w : World}
theorem WL.clear {T : TypeId} {x : Operand} {vx : Value} {w' : World} {ty : TypeId} {ps : String} {af : Array Edge} {g : Option (Nat × Bool)} (hr : (Builtin.clear_ #[T] ty #[vx]).run P w = .ok (.tuple #[]) w')
    (hw : want ops fr ⟨none, .call ⟨.builtin .clear, #[x], #[T]⟩, ty, ps, af, g⟩ = some true := by kernel_rfl) (hx : ev fr x = some vx := by kernel_rfl)
    (k : WL P ops n Q rest fr w') : WL P ops n Q (⟨none, .call ⟨.builtin .clear, #[x], #[T]⟩, ty, ps, af, g⟩ :: rest) fr w :=
  WL.wanted hw fun a ha K hK => by
    unfold Oper.wp
    simp only [execOp, resolve, invoke, builtin, List.map_toArray, List.map_cons, List.map_nil, ha.eval hx, Sem.run_bind, Sem.run_pure, Result.andThen_ok, hr, Oper.upon_value]
    exact hK _ _ (k _ ha)
theorem shr_runV {T : TypeId} {k yk : IntKind} {x y : Int} (h0 : 0 ≤ y) (hb : y.toNat ≤ k.bits) : (binOp .shr T (.int k x) (.int yk y)).run P w = .ok (.int k (x / 2 ^ y.toNat)) w := by
  have hp : (0 : Int) ≤ 2 ^ y.toNat := Int.pow_nonneg (by decide)
  simp only [binOp, Op.shift, if_neg (Int.not_lt.2 h0), Nat.min_eq_left hb, Sem.run_pure, Int.fdiv_eq_ediv_of_nonneg _ hp]
end
end Go.Proofs.YtnkkbeafcfjkmaaGreatDoor
namespace Go.Proofs.YtnkkbeafcfjkmaaGreatDoor
open Go.RowKit
set_option linter.unusedVariables false
set_option linter.unusedSimpArgs false
abbrev strC (l : List UInt8) : List Value := [.string ⟨l.toArray⟩]
theorem EK.of {α : Type} {cl : α → List Value} {m : Nat} {E : TypeId} {z : Value} {bt : Nat} (len : ∀ x, (cl x).length = m) (one : ∀ x, (cl x).all Value.oneCell' = true) (pos : 0 < m) (h : (Tryz.prog.info? E).map (fun i => (i.zero, i.size, i.bytes)) = some (some z, m, bt)) (hz : z.cells.size = m) (hb : bt ≤ 512) : EK cl m E := by
  refine ⟨len, fun x u hu => List.all_eq_true.1 (one x) u hu, pos, ?_⟩
  obtain ⟨i, hi, hp⟩ := Option.map_eq_some_iff.1 h
  simp only [Prod.mk.injEq] at hp
  exact ⟨i, z, hi, hp.1, hp.2.1, hz, by omega⟩
theorem ekStr : EK strC 1 9 := EK.of (z := .string ⟨#[]⟩) (bt := 16) (fun _ => rfl) (fun _ => rfl) (by decide) (by kernel_rfl) rfl (by decide)
section
variable {α β : Type} {xs ys : List α} {i : Int} {r q : α}
def eqU (xs ys : List α) (i : Int) : Prop := xs.take i.toNat = ys.take i.toNat
theorem eqU_zero (xs ys : List α) : eqU xs ys 0 := by simp [eqU]
theorem take_succI (h0 : 0 ≤ i) (hr : xs[i.toNat]? = some r) : xs.take (i + 1).toNat = xs.take i.toNat ++ [r] := by
  rw [show (i + 1).toNat = i.toNat + 1 by omega, List.take_add_one, hr]; rfl
theorem eqU_succ (h0 : 0 ≤ i) (h : eqU xs ys i) (hr : xs[i.toNat]? = some r) (hq : ys[i.toNat]? = some q) (e : r = q) : eqU xs ys (i + 1) := by
  unfold eqU at *; rw [take_succI h0 hr, take_succI h0 hq, h, e]
theorem eqU_bad [DecidableEq α] (hr : xs[i.toNat]? = some r) (hq : ys[i.toNat]? = some q) (e : r ≠ q) : false = decide (xs = ys) := by
  refine (decide_eq_false fun h => e ?_).symm
  rw [h, hq] at hr; exact (Option.some.inj hr).symm
theorem eqU_len [DecidableEq α] (h : (xs.length : Int) ≠ ys.length) : false = decide (xs = ys) := (decide_eq_false fun e => h (by rw [e])).symm
theorem eqU_end [DecidableEq α] (h1 : (xs.length : Int) ≤ i) (hl : (xs.length : Int) = ys.length) (h : eqU xs ys i) : true = decide (xs = ys) := by
  refine (decide_eq_true ?_).symm
  unfold eqU at h
  rwa [List.take_of_length_le (by omega), List.take_of_length_le (by omega)] at h
theorem take_endI (h1 : (xs.length : Int) ≤ i) : xs.take i.toNat = xs := List.take_of_length_le (by omega)
end
end Go.Proofs.YtnkkbeafcfjkmaaGreatDoor
namespace Go.Proofs.YtnkkbeafcfjkmaaGreatDoor
open Go.RowKit
set_option linter.unusedVariables false
set_option linter.unusedSimpArgs false
abbrev u8C (c : UInt8) : List Value := [.int .u8 (c.toNat : Int)]
theorem ekU8 : EK u8C 1 5 := EK.of (z := .int .u8 0) (bt := 1) (fun _ => rfl) (fun _ => rfl) (by decide) (by kernel_rfl) rfl (by decide)
theorem u8C_flat (l : List UInt8) : l.flatMap u8C = Lib.byteCells l := by
  induction l with
  | nil => rfl
  | cons c l ih => rw [List.flatMap_cons, ih]; rfl
theorem SlAt.cellsB {A : Option Addr} {l : List UInt8} {w : World} (h : SlAt u8C 1 5 A l w) : l = [] ∨ ∃ b o cs E' fz, A = some ⟨b, o, none⟩ ∧ w.heap[b]? = some (.cells cs E' fz) ∧ o + l.length ≤ cs.size ∧ (cs.toList.drop o).take l.length = Lib.byteCells l := by
  rcases h with h | ⟨b, o, cs, E', fz, hA, hb, hs, hc⟩
  · exact .inl h
  · refine .inr ⟨b, o, cs, E', fz, hA, hb, by omega, ?_⟩
    apply List.ext_getElem?
    intro i
    by_cases hi : i < l.length
    · have h1 := hc i l[i] (List.getElem?_eq_getElem hi)
      have h2 := congrArg (fun x : List Value => x[0]?) h1
      simp only [List.getElem?_take, List.getElem?_drop, Lib.byteCells] at h2 ⊢
      rw [if_pos hi, List.getElem?_map, List.getElem?_eq_getElem hi]
      simpa using h2
    · rw [List.getElem?_eq_none (by rw [List.length_take]; omega), List.getElem?_eq_none (by simp [Lib.byteCells]; omega)]
theorem ofBytesSl {A : Option Addr} {l : List UInt8} {n c : Nat} {w : World} (h : SlAt u8C 1 5 A l w) (hn : l.length = n) : (convert 61 9 (.slice A n c)).run Tryz.prog w = .ok (.string ⟨l.toArray⟩) w := by
  subst hn
  rw [run_convert_bytes_string w _ _ _ _ _ _ Tryz.underlying61 Tryz.underlying5 Tryz.underlying9]
  rcases h.cellsB with rfl | ⟨b, o, cs, E', fz, rfl, hb, hs, hc⟩
  · cases A with
    | none => rfl
    | some a =>
      show (Conv.bytesToString (.slice (some a) 0 c)).run Tryz.prog w = _
      rw [run_bytesToString w a 0 c [] (by simp [loadCells, loadCellsFrom, Sem.run_pure])]
      rfl
  · have h := run_loadCellsFrom (P := Tryz.prog) (i := o) hb l.length 0 #[] (by omega)
    simp only [Nat.add_zero, hc] at h
    rw [run_bytesToString w _ l.length c (l.map fun c => (c.toNat : Int)) (by
      unfold loadCells
      rw [h]
      congr 1
      apply Array.ext'
      simp [Lib.byteCells])]
    rw [foldl_push]
    congr 2
theorem OwAt.made {b N : Nat} {w : World} (hb : w.heap[b]? = some (.cells (List.replicate N (Value.int .u8 0)).toArray 5 (0, 0))) (hN : N ≤ 1000000000) : OwAt u8C 1 5 (some ⟨b, 0, none⟩) N (List.replicate N 0) w := by
  have hf : (List.replicate N (0 : UInt8)).flatMap u8C = List.replicate N (Value.int .u8 0) := by
    rw [u8C_flat]; simp [Lib.byteCells]
  refine ⟨by rw [hf]; simp, .inr ⟨b, N, _, by simp, Nat.zero_le _, hb, by simp, by unfold maxLen; omega, by simp, ?_⟩⟩
  rw [hf]; simp
section
variable {P : Program} {ops : Array Oper} {n : Md} {Q : Exit → Act → World → Prop} {rest : List Oper} {fr : Fr} {w : World}
theorem WL.copyB {T1 T2 : TypeId} {x y : Operand} {vx vy v : Value} {d : Nat} {w' : World} {ty : TypeId} {ps : String} {af : Array Edge} {g : Option (Nat × Bool)} (hr : (Builtin.copy_ #[T1, T2] ty #[vx, vy]).run P w = .ok v w')
    (hw : want ops fr ⟨some d, .call ⟨.builtin .copy, #[x, y], #[T1, T2]⟩, ty, ps, af, g⟩ = some true := by kernel_rfl) (hx : ev fr x = some vx := by kernel_rfl) (hy : ev fr y = some vy := by kernel_rfl) (hn : Nat.blt d n.n = true := by kernel_rfl)
    (k : WL P ops n Q rest ((d, v) :: fr) w') : WL P ops n Q (⟨some d, .call ⟨.builtin .copy, #[x, y], #[T1, T2]⟩, ty, ps, af, g⟩ :: rest) fr w :=
  WL.wanted hw fun a ha K hK => by
    unfold Oper.wp
    simp only [execOp, resolve, invoke, builtin, List.map_toArray, List.map_cons, List.map_nil, ha.eval hx, ha.eval hy, Sem.run_bind, Sem.run_pure, Result.andThen_ok, hr, Oper.upon_value]
    exact hK _ _ (k _ (ha.put hn _))
end
end Go.Proofs.YtnkkbeafcfjkmaaGreatDoor
namespace Go.Proofs.YtnkkbeafcfjkmaaGreatDoor
set_option linter.unusedVariables false
set_option linter.unusedSimpArgs false
def poly : Nat := 3988292384
def stp (n : Nat) : Nat := (n / 2) ^^^ (if n % 2 = 1 then poly else 0)
def stpN : Nat → Nat → Nat
  | 0, n => n
  | k + 1, n => stp (stpN k n)
theorem xor_lt {a b k : Nat} (ha : a < 2 ^ k) (hb : b < 2 ^ k) : a ^^^ b < 2 ^ k := Nat.xor_lt_two_pow ha hb
theorem stp_lt {n : Nat} (h : n < 4294967296) : stp n < 4294967296 := by
  unfold stp
  refine xor_lt (k := 32) (by omega) ?_
  unfold poly; split <;> decide
theorem stpN_lt {n : Nat} (h : n < 4294967296) : ∀ k, stpN k n < 4294967296
  | 0 => h
  | k + 1 => stp_lt (stpN_lt h k)
theorem xor_div2 (a b : Nat) : (a ^^^ b) / 2 = (a / 2) ^^^ (b / 2) := by
  refine Nat.eq_of_testBit_eq fun i => ?_
  rw [← Nat.testBit_succ, Nat.testBit_xor, Nat.testBit_xor, Nat.testBit_succ, Nat.testBit_succ]
theorem xor_mod2 (a b : Nat) : (a ^^^ b) % 2 = (a + b) % 2 := by
  have h1 := Nat.testBit_xor (x := a) (y := b) (i := 0)
  simp only [Nat.testBit_zero] at h1
  have ha := Nat.mod_two_eq_zero_or_one a
  have hb := Nat.mod_two_eq_zero_or_one b
  have hx := Nat.mod_two_eq_zero_or_one (a ^^^ b)
  rcases ha with ha | ha <;> rcases hb with hb | hb <;> rcases hx with hx | hx <;> simp [ha, hb, hx] at h1 <;> omega
theorem xor_swap (a b c d : Nat) : (a ^^^ b) ^^^ (c ^^^ d) = (a ^^^ c) ^^^ (b ^^^ d) := by
  rw [Nat.xor_assoc, Nat.xor_assoc, ← Nat.xor_assoc b c d, Nat.xor_comm b c, Nat.xor_assoc c b d]
theorem stp_xor (a b : Nat) : stp (a ^^^ b) = stp a ^^^ stp b := by
  unfold stp
  rw [xor_div2, xor_mod2, xor_swap]
  congr 1
  have ha := Nat.mod_two_eq_zero_or_one a
  have hb := Nat.mod_two_eq_zero_or_one b
  rcases ha with ha | ha <;> rcases hb with hb | hb
  · rw [if_neg (by omega), if_neg (by omega), if_neg (by omega)]; simp
  · rw [if_pos (by omega), if_neg (by omega), if_pos (by omega)]; simp
  · rw [if_pos (by omega), if_pos (by omega), if_neg (by omega)]; simp
  · rw [if_neg (by omega), if_pos (by omega), if_pos (by omega)]; simp
theorem stpN_xor (a b : Nat) : ∀ k, stpN k (a ^^^ b) = stpN k a ^^^ stpN k b
  | 0 => rfl
  | k + 1 => by rw [stpN, stpN_xor a b k, stp_xor]; rfl
theorem stp_even (m : Nat) : stp (m * 2) = m := by
  unfold stp
  rw [if_neg (by omega), Nat.mul_div_cancel _ (by decide)]; simp
theorem stpN_up : ∀ (k m : Nat), stpN k (m * 2 ^ k) = m
  | 0, m => by simp [stpN]
  | k + 1, m => by
    have : m * 2 ^ (k + 1) = (m * 2) * 2 ^ k := by rw [Nat.pow_succ, Nat.mul_assoc, Nat.mul_comm 2]
    rw [this, stpN, stpN_up k (m * 2), stp_even]
theorem split256 (x : Nat) : x = (x / 256 * 256) ^^^ (x % 256) := by
  refine Nat.eq_of_testBit_eq fun i => ?_
  rw [Nat.testBit_xor, show (256 : Nat) = 2 ^ 8 from rfl, Nat.testBit_mul_two_pow, Nat.testBit_div_two_pow, Nat.testBit_mod_two_pow]
  by_cases h : i < 8
  · simp [h, show ¬ 8 ≤ i by omega]
  · simp [h, show 8 ≤ i by omega, show i - 8 + 8 = i by omega]
theorem tab_ok (x : Nat) : stpN 8 x = stpN 8 (x % 256) ^^^ (x / 256) := by
  conv => lhs; rw [split256 x]
  rw [stpN_xor, show x / 256 * 256 = x / 256 * 2 ^ 8 from rfl, stpN_up, Nat.xor_comm]
theorem xor_mod256 {n c : Nat} (hc : c < 256) : (n ^^^ c) % 256 = (n % 256) ^^^ c := by
  refine Nat.eq_of_testBit_eq fun i => ?_
  rw [show (256 : Nat) = 2 ^ 8 from rfl, Nat.testBit_mod_two_pow, Nat.testBit_xor, Nat.testBit_xor, Nat.testBit_mod_two_pow]
  by_cases h : i < 8
  · simp [h]
  · have : c.testBit i = false := Nat.testBit_lt_two_pow (Nat.lt_of_lt_of_le hc (Nat.pow_le_pow_right (n := 2) (by decide) (show 8 ≤ i by omega)))
    simp [h, this]
theorem xor_div256 {n c : Nat} (hc : c < 256) : (n ^^^ c) / 256 = n / 256 := by
  refine Nat.eq_of_testBit_eq fun i => ?_
  rw [show (256 : Nat) = 2 ^ 8 from rfl, Nat.testBit_div_two_pow, Nat.testBit_div_two_pow, Nat.testBit_xor]
  have : c.testBit (i + 8) = false := Nat.testBit_lt_two_pow (Nat.lt_of_lt_of_le hc (Nat.pow_le_pow_right (n := 2) (by decide) (show 8 ≤ i + 8 by omega)))
  simp [this]
def upd (n : Nat) (c : UInt8) : Nat := stpN 8 (n ^^^ c.toNat)
theorem u8_lt (c : UInt8) : c.toNat < 256 := c.toNat_lt
theorem upd_tab (n : Nat) (c : UInt8) : upd n c = stpN 8 ((n % 256) ^^^ c.toNat) ^^^ (n / 256) := by
  rw [upd, tab_ok, xor_mod256 (u8_lt c), xor_div256 (u8_lt c)]
theorem upd_lt {n : Nat} (h : n < 4294967296) (c : UInt8) : upd n c < 4294967296 := stpN_lt (xor_lt (k := 32) h (Nat.lt_trans (u8_lt c) (by decide))) 8
def crcF (n : Nat) (l : List UInt8) : Nat := l.foldl upd n
theorem crcF_lt {n : Nat} (h : n < 4294967296) : ∀ l, crcF n l < 4294967296 := fun l => by
  unfold crcF
  induction l generalizing n with
  | nil => exact h
  | cons c l ih => exact ih (upd_lt h c)
theorem crcF_snoc (n : Nat) (l : List UInt8) (c : UInt8) : crcF n (l ++ [c]) = upd (crcF n l) c := by simp [crcF]
def crc (l : List UInt8) : Nat := 4294967295 - crcF 4294967295 l
theorem crc_lt (l : List UInt8) : crc l < 4294967296 := by unfold crc; omega
end Go.Proofs.YtnkkbeafcfjkmaaGreatDoor
namespace Go.Proofs.YtnkkbeafcfjkmaaGreatDoor
open Go.RowKit
set_option linter.unusedVariables false
set_option linter.unusedSimpArgs false
theorem addr_mul (b o j : Nat) : (⟨b, o, none⟩ : Addr).add j = ⟨b, o + j, none⟩ := by
  unfold Addr.add; split <;> simp_all
section
variable {P : Program} {ops : Array Oper} {n : Md} {Q : Exit → Act → World → Prop} {rest : List Oper} {fr : Fr} {w : World} {C : World → Prop} {Z : Act → Prop}
theorem run_idxA {T E : TypeId} {N m b o : Nat} {kk : IntKind} {i : Int} (hT : P.underlying T = some (.array N E)) (hE : (P.info? E).map (·.size) = some m) (h0 : 0 ≤ i) (h1 : i < N) :
    (Instr.indexAt T (.pointer (some ⟨b, o, none⟩)) (.int kk i)).run P w = .ok (.pointer (some ⟨b, o + i.toNat * m, none⟩)) w := by
  obtain ⟨j, hj, hjs⟩ := Option.map_eq_some_iff.1 hE
  simp [Instr.indexAt, asIntOf, run_underlying hT, h0, h1, sizeOf, typeInfo, hj, hjs, addr_mul, Instr.sureAddr]
theorem WL.idxA {T E : TypeId} {N m b o d : Nat} {kk : IntKind} {i : Int} {x y : Operand} {ty : TypeId} {ps : String} {af : Array Edge} {g : Option (Nat × Bool)} (h0 : 0 ≤ i) (h1 : i < N) (hT : P.underlying T = some (.array N E) := by kernel_rfl) (hE : (P.info? E).map (·.size) = some m := by kernel_rfl)
    (hw : want ops fr ⟨some d, .indexAddr T x y, ty, ps, af, g⟩ = some true := by kernel_rfl) (hx : ev fr x = some (.pointer (some ⟨b, o, none⟩)) := by kernel_rfl) (hy : ev fr y = some (.int kk i) := by kernel_rfl) (hn : Nat.blt d n.n = true := by kernel_rfl)
    (k : WL P ops n Q rest ((d, .pointer (some ⟨b, o + i.toNat * m, none⟩)) :: fr) w) : WL P ops n Q (⟨some d, .indexAddr T x y, ty, ps, af, g⟩ :: rest) fr w :=
  WL.wanted hw fun a ha K hK => by
    unfold Oper.wp
    simp only [execOp, ha.eval hx, ha.eval hy, Sem.run_bind, run_idxA hT hE h0 h1, Result.andThen_ok, Sem.run_pure, Oper.upon_value]
    exact hK _ _ (k _ (ha.put hn _))
theorem WQ.idxA {T E : TypeId} {N m b o d : Nat} {kk : IntKind} {i : Int} {x y : Operand} {ty : TypeId} {ps : String} {af : Array Edge} {g : Option (Nat × Bool)} (h0 : 0 ≤ i) (h1 : i < N) (hT : P.underlying T = some (.array N E) := by kernel_rfl) (hE : (P.info? E).map (·.size) = some m := by kernel_rfl)
    (hw : want ops fr ⟨some d, .indexAddr T x y, ty, ps, af, g⟩ = some true := by kernel_rfl) (hx : ev fr x = some (.pointer (some ⟨b, o, none⟩)) := by kernel_rfl) (hy : ev fr y = some (.int kk i) := by kernel_rfl) (hn : Nat.blt d n.n = true := by kernel_rfl)
    (k : WQ P ops n C Z rest ((d, .pointer (some ⟨b, o + i.toNat * m, none⟩)) :: fr)) : WQ P ops n C Z (⟨some d, .indexAddr T x y, ty, ps, af, g⟩ :: rest) fr :=
  WQ.wanted hw fun a ha K hK => ⟨_, fun w _ => by
    unfold Oper.quietAt
    simp only [execOp, ha.eval hx, ha.eval hy, Sem.run_bind, run_idxA hT hE h0 h1, Result.andThen_ok, Sem.run_pure, Oper.quietUpon, and_self], hK _ (k _ (ha.put hn _))⟩
theorem run_strAt {T : TypeId} {l : List UInt8} {kk : IntKind} {i : Int} (hT : P.underlying T = some .string) (h0 : 0 ≤ i) (h1 : i < l.length) :
    (Instr.index T (.string ⟨l.toArray⟩) (.int kk i)).run P w = .ok (.int .u8 ((l.getD i.toNat 0).toNat : Int)) w := by
  have hs : (⟨l.toArray⟩ : ByteArray).size = l.length := rfl
  have hlt : i.toNat < l.length := by omega
  have hg : (⟨l.toArray⟩ : ByteArray)[i.toNat]? = some (l.getD i.toNat 0) := by
    rw [getElem?_pos (⟨l.toArray⟩ : ByteArray) i.toNat (show i.toNat < (⟨l.toArray⟩ : ByteArray).size from hlt)]
    show some (l.toArray[i.toNat]'hlt) = _
    simp [List.getD, hlt]
  simp [Instr.index, asIntOf, run_underlying hT, h0, hg]
theorem WL.strAt {T : TypeId} {l : List UInt8} {d : Nat} {kk : IntKind} {i : Int} {x y : Operand} {ty : TypeId} {ps : String} {af : Array Edge} {g : Option (Nat × Bool)} (h0 : 0 ≤ i) (h1 : i < l.length) (hT : P.underlying T = some .string := by kernel_rfl)
    (hw : want ops fr ⟨some d, .index T x y, ty, ps, af, g⟩ = some true := by kernel_rfl) (hx : ev fr x = some (.string ⟨l.toArray⟩) := by kernel_rfl) (hy : ev fr y = some (.int kk i) := by kernel_rfl) (hn : Nat.blt d n.n = true := by kernel_rfl)
    (k : WL P ops n Q rest ((d, .int .u8 ((l.getD i.toNat 0).toNat : Int)) :: fr) w) : WL P ops n Q (⟨some d, .index T x y, ty, ps, af, g⟩ :: rest) fr w :=
  WL.wanted hw fun a ha K hK => by
    unfold Oper.wp
    simp only [execOp, ha.eval hx, ha.eval hy, Sem.run_bind, run_strAt hT h0 h1, Result.andThen_ok, Sem.run_pure, Oper.upon_value]
    exact hK _ _ (k _ (ha.put hn _))
theorem WQ.strAt {T : TypeId} {l : List UInt8} {d : Nat} {kk : IntKind} {i : Int} {x y : Operand} {ty : TypeId} {ps : String} {af : Array Edge} {g : Option (Nat × Bool)} (h0 : 0 ≤ i) (h1 : i < l.length) (hT : P.underlying T = some .string := by kernel_rfl)
    (hw : want ops fr ⟨some d, .index T x y, ty, ps, af, g⟩ = some true := by kernel_rfl) (hx : ev fr x = some (.string ⟨l.toArray⟩) := by kernel_rfl) (hy : ev fr y = some (.int kk i) := by kernel_rfl) (hn : Nat.blt d n.n = true := by kernel_rfl)
    (k : WQ P ops n C Z rest ((d, .int .u8 ((l.getD i.toNat 0).toNat : Int)) :: fr)) : WQ P ops n C Z (⟨some d, .index T x y, ty, ps, af, g⟩ :: rest) fr :=
  WQ.wanted hw fun a ha K hK => ⟨_, fun w _ => by
    unfold Oper.quietAt
    simp only [execOp, ha.eval hx, ha.eval hy, Sem.run_bind, run_strAt hT h0 h1, Result.andThen_ok, Sem.run_pure, Oper.quietUpon, and_self], hK _ (k _ (ha.put hn _))⟩
end
theorem nat_div (a b : Nat) : ((a : Int) / (b : Int)) = ((a / b : Nat) : Int) := (Int.natCast_ediv a b).symm
theorem byte_nat (a : Nat) : IntKind.wrap .u8 (a : Int) = ((UInt8.ofNat (a % 256)).toNat : Int) := by
  rw [IntKind.wrap_u8, u8_toNat_ofNat]; omega
theorem bv_nat (k a : Nat) (h : a < 2 ^ k) : (BitVec.ofInt k (a : Int)).toNat = a := by
  rw [BitVec.toNat_ofInt]
  have : ((a : Int) % ((2 ^ k : Nat) : Int)) = (a : Int) := Int.emod_eq_of_lt (by omega) (by exact_mod_cast h)
  rw [this]; rfl
theorem bits_xor32 {a b : Nat} (ha : a < 4294967296) (hb : b < 4294967296) : bits .xor .u32 (a : Int) (b : Int) = ((a ^^^ b : Nat) : Int) := by
  have e : bits .xor .u32 (a : Int) (b : Int) = IntKind.wrap .u32 (((BitVec.ofInt 32 (a : Int) ^^^ BitVec.ofInt 32 (b : Int)).toNat : Nat) : Int) := rfl
  rw [e, BitVec.toNat_xor, bv_nat 32 a (by simpa using ha), bv_nat 32 b (by simpa using hb)]
  have := xor_lt (k := 32) (a := a) (b := b) (by simpa using ha) (by simpa using hb)
  exact IntWalk.u32_in _ (by omega)
theorem bits_xor8 {a b : Nat} (ha : a < 256) (hb : b < 256) : bits .xor .u8 (a : Int) (b : Int) = ((a ^^^ b : Nat) : Int) := by
  have e : bits .xor .u8 (a : Int) (b : Int) = IntKind.wrap .u8 (((BitVec.ofInt 8 (a : Int) ^^^ BitVec.ofInt 8 (b : Int)).toNat : Nat) : Int) := rfl
  rw [e, BitVec.toNat_xor, bv_nat 8 a (by simpa using ha), bv_nat 8 b (by simpa using hb)]
  have := xor_lt (k := 8) (a := a) (b := b) (by simpa using ha) (by simpa using hb)
  exact IntWalk.u8_in _ (by omega)
theorem or_add {a c : Nat} (hc : c < 256) : (a * 256) ||| c = a * 256 + c := by
  rw [Nat.mul_comm]; exact (Nat.two_pow_add_eq_or_of_lt (i := 8) (by simpa using hc) a).symm
theorem bits_or64 {a c : Nat} (ha : a * 256 < 18446744073709551616) (hc : c < 256) : bits .or .u64 ((a * 256 : Nat) : Int) (c : Int) = ((a * 256 + c : Nat) : Int) := by
  have e : bits .or .u64 ((a * 256 : Nat) : Int) (c : Int) = IntKind.wrap .u64 (((BitVec.ofInt 64 ((a * 256 : Nat) : Int) ||| BitVec.ofInt 64 (c : Int)).toNat : Nat) : Int) := rfl
  rw [e, BitVec.toNat_or, bv_nat 64 _ (by simpa using ha), bv_nat 64 c (by omega), or_add hc]
  exact IntWalk.u64_in _ (by omega)
theorem bits_or32 {a c : Nat} (ha : a * 256 < 4294967296) (hc : c < 256) : bits .or .u32 ((a * 256 : Nat) : Int) (c : Int) = ((a * 256 + c : Nat) : Int) := by
  have e : bits .or .u32 ((a * 256 : Nat) : Int) (c : Int) = IntKind.wrap .u32 (((BitVec.ofInt 32 ((a * 256 : Nat) : Int) ||| BitVec.ofInt 32 (c : Int)).toNat : Nat) : Int) := rfl
  rw [e, BitVec.toNat_or, bv_nat 32 _ (by simpa using ha), bv_nat 32 c (by omega), or_add hc]
  exact IntWalk.u32_in _ (by omega)
theorem bits_and1u {a : Nat} (ha : a < 4294967296) : bits .and .u32 (a : Int) 1 = ((a % 2 : Nat) : Int) := by
  have e : bits .and .u32 (a : Int) 1 = IntKind.wrap .u32 (((BitVec.ofInt 32 (a : Int) &&& BitVec.ofInt 32 1).toNat : Nat) : Int) := rfl
  rw [e, BitVec.toNat_and, bv_nat 32 a (by simpa using ha), show (BitVec.ofInt 32 1).toNat = 1 by decide, Nat.and_one_is_mod]
  exact IntWalk.u32_in _ (by omega)
theorem not32 {a : Nat} (ha : a < 4294967296) : bits .xor .u32 4294967295 (a : Int) = ((4294967295 - a : Nat) : Int) := by
  have e : bits .xor .u32 4294967295 (a : Int) = IntKind.wrap .u32 (((BitVec.ofInt 32 4294967295 ^^^ BitVec.ofInt 32 (a : Int)).toNat : Nat) : Int) := rfl
  rw [e, show BitVec.ofInt 32 4294967295 = BitVec.allOnes 32 by decide, BitVec.allOnes_xor, BitVec.toNat_not, bv_nat 32 a (by simpa using ha)]
  rw [show 2 ^ 32 - 1 - a = 4294967295 - a by omega]
  exact IntWalk.u32_in _ (by omega)
theorem shl64 {a : Nat} (h : a * 256 < 18446744073709551616) : IntKind.wrap .u64 ((a : Int) * 256) = ((a * 256 : Nat) : Int) := by
  rw [IntWalk.u64_in _ (by omega)]; omega
theorem shl32 {a : Nat} (h : a * 256 < 4294967296) : IntKind.wrap .u32 ((a : Int) * 256) = ((a * 256 : Nat) : Int) := by
  rw [IntWalk.u32_in _ (by omega)]; omega
theorem tmod_nat (a b : Nat) : Int.tmod (a : Int) (b : Int) = ((a % b : Nat) : Int) := rfl
theorem tdiv_nat (a b : Nat) : Int.tdiv (a : Int) (b : Int) = ((a / b : Nat) : Int) := rfl
theorem quo64 {a : Nat} (b : Nat) (h : a < 18446744073709551616) : IntKind.wrap .u64 (Int.tdiv (a : Int) (b : Int)) = ((a / b : Nat) : Int) := by
  rw [tdiv_nat]; have := Nat.div_le_self a b; generalize a / b = q at *; exact IntWalk.u64_in _ (by omega)
theorem quo32 {a : Nat} (b : Nat) (h : a < 4294967296) : IntKind.wrap .u32 (Int.tdiv (a : Int) (b : Int)) = ((a / b : Nat) : Int) := by
  rw [tdiv_nat]; have := Nat.div_le_self a b; generalize a / b = q at *; exact IntWalk.u32_in _ (by omega)
theorem mul64 {a b : Nat} (h : a * b < 18446744073709551616) : IntKind.wrap .u64 ((a : Int) * (b : Int)) = ((a * b : Nat) : Int) := by
  rw [← Int.natCast_mul]; exact IntWalk.u64_in _ (by omega)
theorem add64 {a b : Nat} (h : a + b < 18446744073709551616) : IntKind.wrap .u64 ((a : Int) + (b : Int)) = ((a + b : Nat) : Int) := by
  rw [← Int.natCast_add]; exact IntWalk.u64_in _ (by omega)
end Go.Proofs.YtnkkbeafcfjkmaaGreatDoor
namespace Go.Proofs.YtnkkbeafcfjkmaaGreatDoor
set_option linter.unusedVariables false
set_option linter.unusedSimpArgs false
def be : Nat → Nat → List UInt8
  | 0, _ => []
  | k + 1, n => be k (n / 256) ++ [UInt8.ofNat (n % 256)]
theorem be_len : ∀ k n, (be k n).length = k
  | 0, _ => rfl
  | k + 1, n => by simp [be, be_len k]
theorem pow256 (k : Nat) : 256 ^ (k + 1) = 256 * 256 ^ k := by rw [Nat.pow_succ, Nat.mul_comm]
theorem be_cons : ∀ k n, be (k + 1) n = UInt8.ofNat (n / 256 ^ k % 256) :: be k n
  | 0, n => by simp [be]
  | k + 1, n => by
    rw [be, be_cons k (n / 256), be, List.cons_append, Nat.div_div_eq_div_mul, ← pow256]
theorem beval_be : ∀ k n, n < 256 ^ k → beval (be k n) = n
  | 0, n, h => by simp at h; subst h; rfl
  | k + 1, n, h => by
    rw [pow256] at h
    rw [be, beval_snoc, beval_be k (n / 256) (by omega), u8_toNat_ofNat]; omega
theorem be_beval : ∀ (k : Nat) (l : List UInt8), l.length = k → be k (beval l) = l
  | 0, l, h => by rw [List.eq_nil_of_length_eq_zero h]; rfl
  | k + 1, l, h => by
    have hne : l ≠ [] := fun e => by rw [e] at h; simp at h
    have hl := (List.dropLast_concat_getLast hne).symm
    have hk : l.dropLast.length = k := by simp [h]
    rw [hl, beval_snoc, be]
    have hc := (l.getLast hne).toNat_lt
    have e1 : (beval l.dropLast * 256 + (l.getLast hne).toNat) / 256 = beval l.dropLast := by omega
    have e2 : (beval l.dropLast * 256 + (l.getLast hne).toNat) % 256 = (l.getLast hne).toNat := by omega
    rw [e1, e2, be_beval k _ hk]
    simp
theorem be_get : ∀ (k n i : Nat), i < k → (be k n)[i]? = some (UInt8.ofNat (n / 256 ^ (k - 1 - i) % 256))
  | 0, n, i, h => by omega
  | k + 1, n, 0, h => by rw [be_cons]; simp
  | k + 1, n, i + 1, h => by rw [be_cons, List.getElem?_cons_succ, be_get k n i (by omega), show k + 1 - 1 - (i + 1) = k - 1 - i by omega]
theorem be_take {k n : Nat} {i : Nat} (h : i < k) : (be k n).take i ++ [UInt8.ofNat (n / 256 ^ (k - 1 - i) % 256)] = (be k n).take (i + 1) := by
  rw [List.take_add_one, be_get k n i h]; rfl
theorem be4 (s : Nat) : be 4 s = [UInt8.ofNat (s / 16777216 % 256), UInt8.ofNat (s / 65536 % 256), UInt8.ofNat (s / 256 % 256), UInt8.ofNat (s % 256)] := by
  rw [be_cons, be_cons, be_cons, be_cons, be]; simp
def tagsS (e n : Nat) : List UInt8 := be 8 e ++ be 8 n
def makeS (p : List UInt8) (e n : Nat) : List UInt8 := UInt8.ofNat p.length :: (be 4 (crc (p ++ tagsS e n)) ++ (p ++ (List.replicate (43 - p.length) 0 ++ tagsS e n)))
theorem tagsS_len (e n : Nat) : (tagsS e n).length = 16 := by simp [tagsS, be_len]
theorem makeS_len {p : List UInt8} (h : p.length ≤ 43) (e n : Nat) : (makeS p e n).length = 64 := by
  simp [makeS, be_len, tagsS_len]; omega
def payS (s : List UInt8) : List UInt8 := (s.drop 5).take (s.headD 0).toNat
def epS (s : List UInt8) : Nat := beval ((s.drop 48).take 8)
def nuS (s : List UInt8) : Nat := beval (s.drop 56)
def isCell (s : List UInt8) : Prop := s.length = 64 ∧ (s.headD 0).toNat ≤ 43 ∧ makeS (payS s) (epS s) (nuS s) = s
instance (s : List UInt8) : Decidable (isCell s) := by unfold isCell; infer_instance
theorem epS_lt {s : List UInt8} (h : s.length = 64) : epS s < 18446744073709551616 := by
  have := beval_lt ((s.drop 48).take 8)
  rw [show ((s.drop 48).take 8).length = 8 by simp [h]] at this
  exact this
theorem nuS_lt {s : List UInt8} (h : s.length = 64) : nuS s < 18446744073709551616 := by
  have := beval_lt (s.drop 56)
  rw [show (s.drop 56).length = 8 by simp [h]] at this
  exact this
section
variable {p : List UInt8} {e n : Nat}
theorem make_tag (h : p.length ≤ 43) : (makeS p e n).drop 48 = tagsS e n := by
  have : (UInt8.ofNat p.length :: (be 4 (crc (p ++ tagsS e n)) ++ (p ++ List.replicate (43 - p.length) 0))).length = 48 := by simp [be_len]; omega
  have e2 : makeS p e n = (UInt8.ofNat p.length :: (be 4 (crc (p ++ tagsS e n)) ++ (p ++ List.replicate (43 - p.length) 0))) ++ tagsS e n := by simp [makeS]
  rw [e2, ← this, List.drop_left]
theorem make_ep (h : p.length ≤ 43) (he : e < 18446744073709551616) : epS (makeS p e n) = e := by
  unfold epS
  rw [make_tag h, tagsS, List.take_left' (be_len 8 e)]
  exact beval_be 8 e he
theorem make_nu (h : p.length ≤ 43) (hn : n < 18446744073709551616) : nuS (makeS p e n) = n := by
  unfold nuS
  have : (makeS p e n).drop 56 = ((makeS p e n).drop 48).drop 8 := by rw [List.drop_drop]
  rw [this, make_tag h, tagsS, List.drop_left' (be_len 8 e)]
  exact beval_be 8 n hn
theorem make_head (h : p.length ≤ 43) : ((makeS p e n).headD 0).toNat = p.length := by
  simp only [makeS, List.headD_cons]
  have := u8_toNat_ofNat p.length
  rw [Nat.mod_eq_of_lt (by omega)] at this
  exact this
theorem make_pay (h : p.length ≤ 43) : payS (makeS p e n) = p := by
  unfold payS
  rw [make_head h]
  have : (makeS p e n).drop 5 = p ++ (List.replicate (43 - p.length) 0 ++ tagsS e n) := by
    rw [makeS, List.drop_succ_cons, List.drop_left' (be_len 4 _)]
  rw [this, List.take_left]
theorem make_cell (h : p.length ≤ 43) (he : e < 18446744073709551616) (hn : n < 18446744073709551616) : isCell (makeS p e n) :=
  ⟨makeS_len h e n, by rw [make_head h]; exact h, by rw [make_pay h, make_ep h he, make_nu h hn]⟩
end
theorem parts {s : List UInt8} (h : s.length = 64) (h0 : (s.headD 0).toNat ≤ 43) : s = (s.headD 0) :: ((s.drop 1).take 4 ++ (payS s ++ (((s.take 48).drop (5 + (s.headD 0).toNat)) ++ s.drop 48))) := by
  match s, h, h0 with
  | c :: t, h, h0 =>
    simp only [List.headD_cons] at h0
    simp only [List.headD_cons, payS, List.drop_succ_cons, List.drop_zero, List.take_succ_cons, List.cons.injEq, true_and]
    simp at h
    have e1 : t = t.take 4 ++ t.drop 4 := (List.take_append_drop 4 t).symm
    have e2 : t.drop 4 = (t.drop 4).take c.toNat ++ (t.drop 4).drop c.toNat := (List.take_append_drop _ _).symm
    have e3 : (t.drop 4).drop c.toNat = ((t.take 47).drop (4 + c.toNat)) ++ t.drop 47 := by
      rw [List.drop_drop]
      conv => lhs; rw [← List.take_append_drop 47 t]
      rw [List.drop_append_of_le_length (by simp; omega)]
    rw [show 5 + c.toNat = (4 + c.toNat) + 1 by omega, List.drop_succ_cons]
    conv => lhs; rw [e1, e2, e3]
theorem tag_back {s : List UInt8} (h : s.length = 64) : tagsS (epS s) (nuS s) = s.drop 48 := by
  unfold tagsS epS nuS
  rw [be_beval 8 _ (by simp [h]), be_beval 8 _ (by simp [h])]
  have : s.drop 56 = (s.drop 48).drop 8 := by rw [List.drop_drop]
  rw [this, List.take_append_drop]
theorem cell_iff {s : List UInt8} (h : s.length = 64) (h0 : (s.headD 0).toNat ≤ 43) : isCell s ↔ crc (payS s ++ s.drop 48) = beval ((s.drop 1).take 4) ∧ (s.take 48).drop (5 + (s.headD 0).toNat) = List.replicate (43 - (s.headD 0).toNat) 0 := by
  have hp : (payS s).length = (s.headD 0).toNat := by simp only [payS, List.length_take, List.length_drop]; omega
  have hm : makeS (payS s) (epS s) (nuS s) = (s.headD 0) :: (be 4 (crc (payS s ++ s.drop 48)) ++ (payS s ++ (List.replicate (43 - (s.headD 0).toNat) 0 ++ s.drop 48))) := by
    unfold makeS
    rw [tag_back h, hp]
    simp
  have h4 : ((s.drop 1).take 4).length = 4 := by simp [h]
  unfold isCell
  constructor
  · rintro ⟨_, _, e⟩
    rw [hm] at e
    conv at e => rhs; rw [parts h h0]
    rw [List.cons.injEq] at e
    obtain ⟨_, e⟩ := e
    obtain ⟨e1, e⟩ := List.append_inj e (by rw [be_len, h4])
    obtain ⟨_, e⟩ := List.append_inj e rfl
    obtain ⟨e2, _⟩ := List.append_inj e (by simp only [List.length_replicate, List.length_drop, List.length_take]; omega)
    refine ⟨?_, e2.symm⟩
    rw [← e1, beval_be 4 _ (crc_lt _)]
  · rintro ⟨e1, e2⟩
    refine ⟨h, h0, ?_⟩
    rw [hm, e1, be_beval 4 _ h4, ← e2]
    exact (parts h h0).symm
theorem trimR_step {l : List UInt8} {n : Nat} {c : UInt8} (h : ∀ x ∈ l.drop n, x = c) (h0 : 0 < n) (hl : n ≤ l.length) (hc : l.getD (n - 1) 0 = c) : ∀ x ∈ l.drop (n - 1), x = c := by
  have : l.drop (n - 1) = l[n - 1] :: l.drop n := by
    rw [List.drop_eq_getElem_cons (by omega), show n - 1 + 1 = n by omega]
  rw [this]
  intro x hx
  rcases List.mem_cons.1 hx with rfl | hx
  · simpa [List.getD, show n - 1 < l.length by omega] using hc
  · exact h x hx
theorem trimL_step {l : List UInt8} {n : Nat} {c : UInt8} (h : ∀ x ∈ l.take n, x = c) (hl : n < l.length) (hc : (l.drop n).getD 0 0 = c) : ∀ x ∈ l.take (n + 1), x = c := by
  rw [List.take_add_one, List.getElem?_eq_getElem hl]
  intro x hx
  rcases List.mem_append.1 hx with hx | hx
  · exact h x hx
  · simp at hx
    rw [hx]
    simpa [List.getD, hl] using hc
theorem take_tr {l : List UInt8} {n : Nat} (h : n ≤ l.length) : List.take (((List.take n l).length : Int) - 1).toNat (List.take n l) = List.take (n - 1) l := by
  rw [List.length_take, Nat.min_eq_left h, List.take_take, Nat.min_eq_left (by omega)]
  congr 1; omega
theorem getD_take {l : List UInt8} {n : Nat} (h : n ≤ l.length) (h0 : 0 < n) : List.getD (List.take n l) (((List.take n l).length : Int) - 1).toNat 0 = l.getD (n - 1) 0 := by
  rw [List.length_take, Nat.min_eq_left h, show ((n : Int) - 1).toNat = n - 1 by omega]
  simp [List.getD, List.getElem?_take, show n - 1 < n by omega]
theorem trimR_at {l : List UInt8} {n : Nat} {c : UInt8} (h : n ≤ l.length) (h0 : 0 < n) (e : ((List.getD (List.take n l) (((List.take n l).length : Int) - 1).toNat 0).toNat : Int) = (c.toNat : Int)) : l.getD (n - 1) 0 = c := by
  rw [getD_take h h0] at e
  exact UInt8.toNat_inj.1 (Int.ofNat.inj e)
theorem trimR_ta {l : List UInt8} {n : Nat} {c : UInt8} (h : n ≤ l.length) (h0 : 0 < n) (e : l.getD (n - 1) 0 = c) : ((List.getD (List.take n l) (((List.take n l).length : Int) - 1).toNat 0).toNat : Int) = (c.toNat : Int) := by
  rw [getD_take h h0, e]
theorem trimL_at {l : List UInt8} {n : Nat} {c : UInt8} (e : ((List.getD (List.drop n l) (0 : Int).toNat 0).toNat : Int) = (c.toNat : Int)) : (l.drop n).getD 0 0 = c := UInt8.toNat_inj.1 (Int.ofNat.inj e)
theorem trimL_ta {l : List UInt8} {n : Nat} {c : UInt8} (e : (l.drop n).getD 0 0 = c) : ((List.getD (List.drop n l) (0 : Int).toNat 0).toNat : Int) = (c.toNat : Int) := congrArg (fun c : UInt8 => (c.toNat : Int)) e
theorem drop_tr (n : Nat) (l : List UInt8) : List.drop 1 (List.drop n l) = List.drop (n + 1) l := by rw [List.drop_drop]
theorem zeros_iff {l : List UInt8} {n : Nat} (h : l.length = n) : (∀ x ∈ l, x = 0) ↔ l = List.replicate n 0 := by
  subst h
  exact ⟨fun h => List.eq_replicate_of_mem h, fun h x hx => by rw [h] at hx; exact List.eq_of_mem_replicate hx⟩
end Go.Proofs.YtnkkbeafcfjkmaaGreatDoor
namespace Go.Proofs.YtnkkbeafcfjkmaaGreatDoor
open Go.RowKit
set_option linter.unusedVariables false
set_option linter.unusedSimpArgs false
def tabL (c0 c1 c2 : Value) (tb : List Nat) : List Value := c0 :: c1 :: c2 :: tb.map fun (n : Nat) => Value.int .u32 (n : Int)
def TabC (b : Nat) (c0 c1 c2 : Value) (tb : List Nat) (w : World) : Prop := tb.length = 256 ∧ w.heap[b]? = some (.cells (tabL c0 c1 c2 tb).toArray 122 (0, 0))
def tabG (N : Nat) (i : Int) : List Nat := (List.range N).map fun (k : Nat) => if (k : Int) < i then stpN 8 k else 0
theorem tabG_zero (N : Nat) : tabG N 0 = List.replicate N 0 := by
  unfold tabG
  refine List.ext_getElem? fun k => ?_
  by_cases h : k < N
  · simp [h]; omega
  · simp [h]
theorem tabG_set (N : Nat) {i : Int} (h0 : 0 ≤ i) (h1 : i < N) : (tabG N i).set i.toNat (stpN 8 i.toNat) = tabG N (i + 1) := by
  refine List.ext_getElem? fun k => ?_
  rw [List.getElem?_set]
  unfold tabG
  by_cases h : k < N
  · by_cases e : i.toNat = k
    · subst e
      have : i.toNat < N := by omega
      simp [this]; omega
    · simp only [e, if_false]
      simp [h]
      by_cases hk : (k : Int) < i
      · rw [if_pos hk, if_pos (by omega)]
      · rw [if_neg hk, if_neg (by omega)]
  · have : ¬ i.toNat = k := by omega
    simp [h, this]
theorem tabG_get {N k : Nat} (h : k < N) : (tabG N N).getD k 0 = stpN 8 k := by
  unfold tabG
  simp [h]
def tabF (i : Int) : List Nat := tabG 256 i
theorem tabF_zero : tabF 0 = List.replicate 256 0 := tabG_zero 256
theorem tabF_set {i : Int} (h0 : 0 ≤ i) (h1 : i < 256) : (tabF i).set i.toNat (stpN 8 i.toNat) = tabF (i + 1) := tabG_set 256 h0 h1
theorem tabF_get {k : Nat} (h : k < 256) : (tabF 256).getD k 0 = stpN 8 k := tabG_get h
theorem tabF_getI {n : Nat} (h : n < 256) : ((List.getD (tabF 256) ((n : Nat) : Int).toNat 0 : Nat) : Int) = ((stpN 8 n : Nat) : Int) := by rw [Int.toNat_natCast, tabF_get h]
theorem crcU_succ {n : Nat} {l : List UInt8} {i : Int} (h0 : 0 ≤ i) (h1 : i < l.length) : upd (crcF n (List.take i.toNat l)) (List.getD l i.toNat 0) = crcF n (List.take (i + 1).toNat l) := by
  have hlt : i.toNat < l.length := by omega
  rw [← crcF_snoc, show (i + 1).toNat = i.toNat + 1 by omega, List.take_add_one, List.getElem?_eq_getElem hlt]
  simp [List.getD, hlt]
theorem upd_byte8 (n : Nat) (c : UInt8) : stpN 8 ((UInt8.ofNat (n % 256)).toNat ^^^ c.toNat) ^^^ (n / 256) = upd n c := by rw [u8_toNat_ofNat, upd_tab]
theorem beU_succ {l : List UInt8} {i : Int} (h0 : 0 ≤ i) (h1 : i < l.length) : beval (List.take i.toNat l) * 256 + (List.getD l i.toNat 0).toNat = beval (List.take (i + 1).toNat l) := by
  have hlt : i.toNat < l.length := by omega
  rw [← beval_snoc, show (i + 1).toNat = i.toNat + 1 by omega, List.take_add_one, List.getElem?_eq_getElem hlt]
  simp [List.getD, hlt]
theorem beval_b56 (l : List UInt8) {i : Int} (h : i ≤ 7) : beval (List.take i.toNat l) < 72057594037927936 := by
  have h1 := beval_lt (List.take i.toNat l)
  have h2 : 256 ^ (List.take i.toNat l).length ≤ 256 ^ 7 := Nat.pow_le_pow_right (by decide) (by rw [List.length_take]; omega)
  have h3 : (256 : Nat) ^ 7 = 72057594037927936 := by decide
  omega
theorem beval_b24 (l : List UInt8) {i : Int} (h : i ≤ 3) : beval (List.take i.toNat l) < 16777216 := by
  have h1 := beval_lt (List.take i.toNat l)
  have h2 : 256 ^ (List.take i.toNat l).length ≤ 256 ^ 3 := Nat.pow_le_pow_right (by decide) (by rw [List.length_take]; omega)
  have h3 : (256 : Nat) ^ 3 = 16777216 := by decide
  omega
theorem stpN_even {i : Int} {n : Nat} (h0 : 0 ≤ i) (h : stpN i.toNat n % 2 ≠ 1) : stpN i.toNat n / 2 = stpN (i + 1).toNat n := by
  rw [show (i + 1).toNat = i.toNat + 1 by omega, stpN, stp, if_neg h]; simp
theorem stpN_odd {i : Int} {n : Nat} (h0 : 0 ≤ i) (h : stpN i.toNat n % 2 = 1) : (stpN i.toNat n / 2) ^^^ 3988292384 = stpN (i + 1).toNat n := by
  rw [show (i + 1).toNat = i.toNat + 1 by omega, stpN, stp, if_pos h]; rfl
section
variable {b j : Nat} {c0 c1 c2 v : Value} {tb : List Nat} {w w' : World} {S : Nat → Prop}
theorem TabC.lt (h : TabC b c0 c1 c2 tb w) : b < w.heap.size := lt_of_heap h.2
theorem TabC.keeps (h : TabC b c0 c1 c2 tb w) (k : Keeps S w w') (hn : ¬ S b) : TabC b c0 c1 c2 tb w' := ⟨h.1, k.heap h.2 hn⟩
theorem TabC.get (h : TabC b c0 c1 c2 tb w) (hj : j < 256) : w.cell? ⟨b, 3 + j, none⟩ = some (.int .u32 ((tb.getD j 0 : Nat) : Int)) := by
  refine cell_at h.2 _ ?_
  have := h.1
  unfold tabL
  rw [show 3 + j = j + 1 + 1 + 1 by omega]
  simp [List.getElem?_eq_getElem (show j < tb.length by omega)]
theorem tab_ld (h : TabC b c0 c1 c2 tb w) (hj : j < 256) : (loadVar 94 ⟨b, 3 + j * 1, none⟩).run Tryz.prog w = .ok (.int .u32 ((tb.getD j 0 : Nat) : Int)) w := by
  have hc := h.get hj
  have hsc : scT Tryz.prog 94 = true := by kernel_rfl
  unfold loadVar
  simp only [Sem.run_bind, run_isAgg_sc hsc, Result.andThen_ok, Nat.mul_one]
  simp [go_sem, hc]
theorem tab_st (h : TabC b c0 c1 c2 tb w) (hj : j < 256) (n : Nat) : ∃ w', (storeVar 94 ⟨b, 3 + j * 1, none⟩ (.int .u32 (n : Int))).run Tryz.prog w = .ok () w' ∧ TabC b c0 c1 c2 (tb.set j n) w' ∧ Keeps (fun k => k = b) w w' := by
  have hc := h.get hj
  have hf : w.frozen? ⟨b, 3 + j, none⟩ = false := free_at h.2 _
  have hs : (Tryz.prog.info? 94).map (·.size) = some 1 := by kernel_rfl
  obtain ⟨i, hi, hz⟩ := Option.map_eq_some_iff.1 hs
  rw [Nat.mul_one]
  refine ⟨w.setCell ⟨b, 3 + j, none⟩ (.int .u32 (n : Int)), ?_, ⟨by rw [List.length_set]; exact h.1, ?_⟩, (Keeps.refl (fun k => k = b) w).setCell _ _ (fun _ => rfl)⟩
  · unfold storeVar
    simp [sizeOf, typeInfo, hi, hz, storeCells, Addr.add, store, Sem.run, hc, hf, Value.cells]
  · have e : (tabL c0 c1 c2 tb).toArray.setIfInBounds (3 + j) (.int .u32 (n : Int)) = (tabL c0 c1 c2 (tb.set j n)).toArray := by
      apply Array.ext'
      unfold tabL
      rw [show 3 + j = j + 1 + 1 + 1 by omega, Array.toList_setIfInBounds]
      simp only [List.set_cons_succ, List.map_set]
    rw [heap_set_same h.2, e]
theorem TabC.g0 (h : TabC b c0 c1 c2 tb w) : w.cell? ⟨b, 0, none⟩ = some c0 := cell_at h.2 _ (by simp [tabL])
theorem TabC.g1 (h : TabC b c0 c1 c2 tb w) : w.cell? ⟨b, 1, none⟩ = some c1 := cell_at h.2 _ (by simp [tabL])
theorem TabC.free (h : TabC b c0 c1 c2 tb w) (j : Nat) : w.frozen? ⟨b, j, none⟩ = false := free_at h.2 _
theorem TabC.set0 (h : TabC b c0 c1 c2 tb w) (v : Value) : TabC b v c1 c2 tb (w.setCell ⟨b, 0, none⟩ v) ∧ Keeps (fun k => k = b) w (w.setCell ⟨b, 0, none⟩ v) :=
  ⟨⟨h.1, by rw [heap_set_same h.2]; simp [tabL]⟩, (Keeps.refl (fun k => k = b) w).setCell _ _ (fun _ => rfl)⟩
theorem TabC.set1 (h : TabC b c0 c1 c2 tb w) (v : Value) : TabC b c0 v c2 tb (w.setCell ⟨b, 1, none⟩ v) ∧ Keeps (fun k => k = b) w (w.setCell ⟨b, 1, none⟩ v) :=
  ⟨⟨h.1, by rw [heap_set_same h.2]; simp [tabL]⟩, (Keeps.refl (fun k => k = b) w).setCell _ _ (fun _ => rfl)⟩
theorem TabC.of (h : w.heap[b]? = some (.cells (tabL c0 c1 c2 (List.replicate 256 0)).toArray 122 (0, 0))) : TabC b c0 c1 c2 (List.replicate 256 0) w := ⟨List.length_replicate, h⟩
end
end Go.Proofs.YtnkkbeafcfjkmaaGreatDoor
namespace Go.Proofs.YtnkkbeafcfjkmaaGreatDoor
open Go.RowKit
set_option linter.unusedVariables false
set_option linter.unusedSimpArgs false
set_option maxRecDepth 100000 in
set_option maxHeartbeats 4000000 in
theorem cBytes_c {n : Nat} (hn : n < 4294967296) (w : World) : Calls Tryz.prog 61 #[.int .u32 (n : Int)] w fun e w' => e = .returned (.string ⟨(be 4 n).toArray⟩) ∧ Adds w w' := by
  have K : Keeps (fun _ => False) w w := Keeps.refl _ w
  refine Calls.start Tryz.func61 rfl (by kernel_rfl) ?_
  refine WC.seq ?_
  refine WC.region ?_
  refine WL.op (d := 2) (.string ⟨#[]⟩) (k := ?_)
  refine WL.nil ?_
  refine WX.seqN ?_
  refine WC.seq ?_
  refine WC.region ?_
  refine WL.op (d := 3) (.int .u32 (n : Int)) (k := ?_)
  refine WL.bin (d := 4) (v := .int .u32 ((n : Int) / 16777216)) (shr_run (k := .u32) (yk := .u64) (x := (n : Int)) (y := 24) (c := 16777216) (by decide) (by decide) (by decide)) (k := ?_)
  refine WL.rw (t := 4) (v := .int .u32 ((n / 16777216 : Nat) : Int)) (congrArg (Value.int .u32) (nat_div n 16777216)) (k := ?_)
  have ub1 := u8_lt (UInt8.ofNat ((n / 16777216) % 256))
  refine WL.opE (d := 5) (.int .u8 (IntKind.u8.wrap ((n / 16777216 : Nat) : Int))) (v := .int .u8 ((UInt8.ofNat ((n / 16777216) % 256)).toNat : Int)) (congrArg (Value.int .u8) (byte_nat (n / 16777216))) (k := ?_)
  refine WL.op (d := 6) (.int .u32 (n : Int)) (k := ?_)
  refine WL.bin (d := 7) (v := .int .u32 ((n : Int) / 65536)) (shr_run (k := .u32) (yk := .u64) (x := (n : Int)) (y := 16) (c := 65536) (by decide) (by decide) (by decide)) (k := ?_)
  refine WL.rw (t := 7) (v := .int .u32 ((n / 65536 : Nat) : Int)) (congrArg (Value.int .u32) (nat_div n 65536)) (k := ?_)
  have ub2 := u8_lt (UInt8.ofNat ((n / 65536) % 256))
  refine WL.opE (d := 8) (.int .u8 (IntKind.u8.wrap ((n / 65536 : Nat) : Int))) (v := .int .u8 ((UInt8.ofNat ((n / 65536) % 256)).toNat : Int)) (congrArg (Value.int .u8) (byte_nat (n / 65536))) (k := ?_)
  refine WL.op (d := 9) (.int .u32 (n : Int)) (k := ?_)
  refine WL.bin (d := 10) (v := .int .u32 ((n : Int) / 256)) (shr_run (k := .u32) (yk := .u64) (x := (n : Int)) (y := 8) (c := 256) (by decide) (by decide) (by decide)) (k := ?_)
  refine WL.rw (t := 10) (v := .int .u32 ((n / 256 : Nat) : Int)) (congrArg (Value.int .u32) (nat_div n 256)) (k := ?_)
  have ub3 := u8_lt (UInt8.ofNat ((n / 256) % 256))
  refine WL.opE (d := 11) (.int .u8 (IntKind.u8.wrap ((n / 256 : Nat) : Int))) (v := .int .u8 ((UInt8.ofNat ((n / 256) % 256)).toNat : Int)) (congrArg (Value.int .u8) (byte_nat (n / 256))) (k := ?_)
  refine WL.op (d := 12) (.int .u32 (n : Int)) (k := ?_)
  have ub4 := u8_lt (UInt8.ofNat ((n) % 256))
  refine WL.opE (d := 13) (.int .u8 (IntKind.u8.wrap (n : Int))) (v := .int .u8 ((UInt8.ofNat ((n) % 256)).toNat : Int)) (congrArg (Value.int .u8) (byte_nat (n))) (k := ?_)
  refine WL.newF (d := 14) (T := 5) #[.int .u8 ((UInt8.ofNat ((n / 16777216) % 256)).toNat : Int), .int .u8 ((UInt8.ofNat ((n / 65536) % 256)).toNat : Int), .int .u8 ((UInt8.ofNat ((n / 256) % 256)).toNat : Int), .int .u8 ((UInt8.ofNat ((n) % 256)).toNat : Int)] (fun b => .slice (some ⟨b, 0, none⟩) 4 4) (k := fun b5 w6 g7 hb8 k9 => ?_)
  have z10 := Nat.le_trans K.size g7
  replace K := K.trans (k9.any _)
  refine WL.conv (d := 15) (vx := .slice (some ⟨b5, 0, none⟩) 4 4) (v := .string ⟨#[(UInt8.ofNat ((n / 16777216) % 256)), (UInt8.ofNat ((n / 65536) % 256)), (UInt8.ofNat ((n / 256) % 256)), (UInt8.ofNat ((n) % 256))]⟩) (run_ofBytes (T := 61) (S := 9) (E := 5) (l := [(UInt8.ofNat ((n / 16777216) % 256)), (UInt8.ofNat ((n / 65536) % 256)), (UInt8.ofNat ((n / 256) % 256)), (UInt8.ofNat ((n) % 256))]) (by kernel_rfl) (by kernel_rfl) (by kernel_rfl) hb8 rfl (by kernel_rfl)) (k := ?_)
  refine WL.op (d := 2) (.string ⟨#[(UInt8.ofNat ((n / 16777216) % 256)), (UInt8.ofNat ((n / 65536) % 256)), (UInt8.ofNat ((n / 256) % 256)), (UInt8.ofNat ((n) % 256))]⟩) (k := ?_)
  refine WL.nil ?_
  refine WX.seqN ?_
  refine WC.ret ?_
  refine WX.ret (rs := [.tmp 2]) [.string ⟨#[(UInt8.ofNat ((n / 16777216) % 256)), (UInt8.ofNat ((n / 65536) % 256)), (UInt8.ofNat ((n / 256) % 256)), (UInt8.ofNat ((n) % 256))]⟩] (.string ⟨#[(UInt8.ofNat ((n / 16777216) % 256)), (UInt8.ofNat ((n / 65536) % 256)), (UInt8.ofNat ((n / 256) % 256)), (UInt8.ofNat ((n) % 256))]⟩) ⟨(by kernel_rfl), trivial⟩ (k := ?_)
  exact ⟨by rw [be4], K⟩
set_option maxRecDepth 100000 in
set_option maxHeartbeats 4000000 in
theorem u02Bytes_c {n : Nat} (hn : n < 4294967296) (w : World) : Calls Tryz.prog 48 #[.int .u32 (n : Int)] w fun e w' => e = .returned (.string ⟨(be 4 n).toArray⟩) ∧ Adds w w' := by
  have K : Keeps (fun _ => False) w w := Keeps.refl _ w
  refine Calls.start Tryz.func48 rfl (by kernel_rfl) ?_
  refine WC.seq ?_
  refine WC.region ?_
  refine WL.op (d := 2) (.string ⟨#[]⟩) (k := ?_)
  refine WL.nil ?_
  refine WX.seqN ?_
  refine WC.seq ?_
  refine WC.region ?_
  refine WL.op (d := 3) (.int .u32 (n : Int)) (k := ?_)
  refine WL.bin (d := 4) (v := .int .u32 (IntKind.u32.wrap (Int.tdiv (n : Int) 16777216))) (quo_run (by omega)) (k := ?_)
  refine WL.rw (t := 4) (v := .int .u32 ((n / 16777216 : Nat) : Int)) (congrArg (Value.int .u32) (quo32 16777216 (by omega))) (k := ?_)
  have ub1 := u8_lt (UInt8.ofNat ((n / 16777216) % 256))
  refine WL.opE (d := 5) (.int .u8 (IntKind.u8.wrap ((n / 16777216 : Nat) : Int))) (v := .int .u8 ((UInt8.ofNat ((n / 16777216) % 256)).toNat : Int)) (congrArg (Value.int .u8) (byte_nat (n / 16777216))) (k := ?_)
  refine WL.op (d := 6) (.int .u32 (n : Int)) (k := ?_)
  refine WL.bin (d := 7) (v := .int .u32 (IntKind.u32.wrap (Int.tdiv (n : Int) 65536))) (quo_run (by omega)) (k := ?_)
  refine WL.rw (t := 7) (v := .int .u32 ((n / 65536 : Nat) : Int)) (congrArg (Value.int .u32) (quo32 65536 (by omega))) (k := ?_)
  have ub2 := u8_lt (UInt8.ofNat ((n / 65536) % 256))
  refine WL.opE (d := 8) (.int .u8 (IntKind.u8.wrap ((n / 65536 : Nat) : Int))) (v := .int .u8 ((UInt8.ofNat ((n / 65536) % 256)).toNat : Int)) (congrArg (Value.int .u8) (byte_nat (n / 65536))) (k := ?_)
  refine WL.op (d := 9) (.int .u32 (n : Int)) (k := ?_)
  refine WL.bin (d := 10) (v := .int .u32 (IntKind.u32.wrap (Int.tdiv (n : Int) 256))) (quo_run (by omega)) (k := ?_)
  refine WL.rw (t := 10) (v := .int .u32 ((n / 256 : Nat) : Int)) (congrArg (Value.int .u32) (quo32 256 (by omega))) (k := ?_)
  have ub3 := u8_lt (UInt8.ofNat ((n / 256) % 256))
  refine WL.opE (d := 11) (.int .u8 (IntKind.u8.wrap ((n / 256 : Nat) : Int))) (v := .int .u8 ((UInt8.ofNat ((n / 256) % 256)).toNat : Int)) (congrArg (Value.int .u8) (byte_nat (n / 256))) (k := ?_)
  refine WL.op (d := 12) (.int .u32 (n : Int)) (k := ?_)
  have ub4 := u8_lt (UInt8.ofNat ((n) % 256))
  refine WL.opE (d := 13) (.int .u8 (IntKind.u8.wrap (n : Int))) (v := .int .u8 ((UInt8.ofNat ((n) % 256)).toNat : Int)) (congrArg (Value.int .u8) (byte_nat (n))) (k := ?_)
  refine WL.newF (d := 14) (T := 5) #[.int .u8 ((UInt8.ofNat ((n / 16777216) % 256)).toNat : Int), .int .u8 ((UInt8.ofNat ((n / 65536) % 256)).toNat : Int), .int .u8 ((UInt8.ofNat ((n / 256) % 256)).toNat : Int), .int .u8 ((UInt8.ofNat ((n) % 256)).toNat : Int)] (fun b => .slice (some ⟨b, 0, none⟩) 4 4) (k := fun b5 w6 g7 hb8 k9 => ?_)
  have z10 := Nat.le_trans K.size g7
  replace K := K.trans (k9.any _)
  refine WL.conv (d := 15) (vx := .slice (some ⟨b5, 0, none⟩) 4 4) (v := .string ⟨#[(UInt8.ofNat ((n / 16777216) % 256)), (UInt8.ofNat ((n / 65536) % 256)), (UInt8.ofNat ((n / 256) % 256)), (UInt8.ofNat ((n) % 256))]⟩) (run_ofBytes (T := 61) (S := 9) (E := 5) (l := [(UInt8.ofNat ((n / 16777216) % 256)), (UInt8.ofNat ((n / 65536) % 256)), (UInt8.ofNat ((n / 256) % 256)), (UInt8.ofNat ((n) % 256))]) (by kernel_rfl) (by kernel_rfl) (by kernel_rfl) hb8 rfl (by kernel_rfl)) (k := ?_)
  refine WL.op (d := 2) (.string ⟨#[(UInt8.ofNat ((n / 16777216) % 256)), (UInt8.ofNat ((n / 65536) % 256)), (UInt8.ofNat ((n / 256) % 256)), (UInt8.ofNat ((n) % 256))]⟩) (k := ?_)
  refine WL.nil ?_
  refine WX.seqN ?_
  refine WC.ret ?_
  refine WX.ret (rs := [.tmp 2]) [.string ⟨#[(UInt8.ofNat ((n / 16777216) % 256)), (UInt8.ofNat ((n / 65536) % 256)), (UInt8.ofNat ((n / 256) % 256)), (UInt8.ofNat ((n) % 256))]⟩] (.string ⟨#[(UInt8.ofNat ((n / 16777216) % 256)), (UInt8.ofNat ((n / 65536) % 256)), (UInt8.ofNat ((n / 256) % 256)), (UInt8.ofNat ((n) % 256))]⟩) ⟨(by kernel_rfl), trivial⟩ (k := ?_)
  exact ⟨by rw [be4], K⟩
set_option maxRecDepth 100000 in
set_option maxHeartbeats 4000000 in
theorem cRead_c {l : List UInt8} (hl : 4 ≤ l.length) (hm : l.length ≤ 1000000) (w : World) : Calls Tryz.prog 53 #[.string ⟨l.toArray⟩] w fun e w' => e = .returned (.tuple #[.int .u32 ((beval (l.take 4) : Nat) : Int), .bool true]) ∧ Adds w w' := by
  have K : Keeps (fun _ => False) w w := Keeps.refl _ w
  refine Calls.start Tryz.func53 rfl (by kernel_rfl) ?_
  refine WC.seq ?_
  refine WC.region ?_
  refine WL.op (d := 2) (.int .u32 0) (k := ?_)
  refine WL.op (d := 3) (.bool false) (k := ?_)
  refine WL.nil ?_
  refine WX.seqN ?_
  refine WC.seq ?_
  refine WC.seq ?_
  refine WC.region ?_
  refine WL.op (d := 6) (.string ⟨(l).toArray⟩) (k := ?_)
  refine WL.op (d := 7) (.int .i64 (l.length : Int)) (k := ?_)
  refine WL.op (d := 8) (.bool (decide ((l.length : Int) < 4))) (k := ?_)
  refine WL.nil ?_
  refine WX.seqN ?_
  refine WC.cond (b := decide ((l.length : Int) < 4)) (ht := fun h1 => ?_) (hf := fun h1 => ?_)
  · have ph1 := of_decide_eq_true h1
    refine WC.seq ?_
    refine WC.region ?_
    refine WL.op (d := 2) (.int .u32 0) (k := ?_)
    refine WL.op (d := 3) (.bool false) (k := ?_)
    refine WL.nil ?_
    refine WX.seqN ?_
    refine WC.ret ?_
    refine WX.seqR ?_
    refine WX.ret (rs := [.tmp 2, .tmp 3]) [.int .u32 0, .bool false] (.tuple #[.int .u32 0, .bool false]) ⟨(by kernel_rfl), (by kernel_rfl), trivial⟩ (k := ?_)
    exfalso; omega
  · have ph1 := of_decide_eq_false h1
    refine WC.skip ?_
    refine WX.seqN ?_
    refine WC.seq ?_
    refine WC.region ?_
    refine WL.op (d := 4) (.int .u32 0) (k := ?_)
    refine WL.nil ?_
    refine WX.seqN ?_
    refine WC.seq ?_
    refine WC.seq ?_
    refine WC.region ?_
    refine WL.op (d := 9) (.int .i64 0) (k := ?_)
    refine WL.nil ?_
    refine WX.seqN ?_
    refine WC.block ?_
    refine WC.loop (ι := Int) (fun (i : Int) => [(0, .string ⟨(l).toArray⟩), (2, .int .u32 0), (3, .bool false), (6, .string ⟨(l).toArray⟩), (7, .int .i64 (l.length : Int)), (8, .bool (decide ((l.length : Int) < 4))), (9, .int .i64 i), (4, .int .u32 ((beval (List.take i.toNat l) : Nat) : Int))]) (fun (i : Int) (w_ : World) => (Keeps (fun _ => False) w w_) ∧ (0 ≤ i) ∧ (i ≤ 4)) (fun (i : Int) => (4 - i).toNat) 0 ⟨(by kernel_rfl), (by kernel_rfl), (by kernel_rfl), (by kernel_rfl), (by kernel_rfl), (by kernel_rfl), (by kernel_rfl), (by kernel_rfl), trivial⟩ ⟨K, Int.le_refl 0, (by decide)⟩ ?_
    rintro i w2 ⟨K, i0, i1⟩
    refine WC.seq ?_
    refine WC.region ?_
    refine WL.op (d := 10) (.bool (decide (i < 4))) (k := ?_)
    refine WL.nil ?_
    refine WX.seqN ?_
    refine WC.seq ?_
    refine WC.cond (b := decide (i < 4)) (ht := fun h3 => ?_) (hf := fun h3 => ?_)
    · have ph3 := of_decide_eq_true h3
      refine WC.skip ?_
      refine WX.seqN ?_
      refine WC.seq ?_
      refine WC.block ?_
      refine WC.seq ?_
      refine WC.region ?_
      refine WL.op (d := 11) (.int .i64 i) (k := ?_)
      refine WL.op (d := 5) (.int .i64 i) (k := ?_)
      refine WL.nil ?_
      refine WX.seqN ?_
      have bb_ := beval_b24 l (i := i) (by omega)
      refine WC.region ?_
      refine WL.op (d := 12) (.int .u32 ((beval (List.take i.toNat l) : Nat) : Int)) (k := ?_)
      refine WL.bin (d := 13) (v := .int .u32 (IntKind.u32.wrap (((beval (List.take i.toNat l) : Nat) : Int) * 256))) (shl_run (k := .u32) (yk := .u64) (x := ((beval (List.take i.toNat l) : Nat) : Int)) (y := 8) (c := 256) (by decide) (by decide) (by decide)) (k := ?_)
      refine WL.rw (t := 13) (v := .int .u32 (((beval (List.take i.toNat l)) * 256 : Nat) : Int)) (congrArg (Value.int .u32) (shl32 (a := (beval (List.take i.toNat l))) (by omega))) (k := ?_)
      refine WL.op (d := 14) (.string ⟨(l).toArray⟩) (k := ?_)
      refine WL.op (d := 15) (.int .i64 i) (k := ?_)
      refine WL.strAt (T := 9) (l := l) (i := i) (kk := .i64) (d := 16) (by omega) (by first | omega | (simp; omega)) (by kernel_rfl) (by kernel_rfl) (by kernel_rfl) (by kernel_rfl) (by kernel_rfl) ?_
      have ub4 := u8_lt (List.getD l (i).toNat 0)
      refine WL.opE (d := 17) (.int .u32 (IntKind.u32.wrap ((List.getD l (i).toNat 0).toNat : Int))) (v := .int .u32 ((List.getD l (i).toNat 0).toNat : Int)) (congrArg (Value.int .u32) (IntWalk.u32_in _ (by omega))) (k := ?_)
      refine WL.bin (d := 18) (v := .int .u32 (bits BinOp.or IntKind.u32 (((beval (List.take i.toNat l)) * 256 : Nat) : Int) ((List.getD l (i).toNat 0).toNat : Int))) (bits_run (by decide)) (k := ?_)
      refine WL.rw (t := 18) (v := .int .u32 (((beval (List.take i.toNat l)) * 256 + ((List.getD l (i).toNat 0).toNat) : Nat) : Int)) (congrArg (Value.int .u32) (bits_or32 (by omega) (by omega))) (k := ?_)
      refine WL.op (d := 4) (.int .u32 (((beval (List.take i.toNat l)) * 256 + ((List.getD l (i).toNat 0).toNat) : Nat) : Int)) (k := ?_)
      refine WL.nil ?_
      refine WX.blockN ?_
      refine WX.seqN ?_
      refine WC.region ?_
      refine WL.opE (d := 19) (.int .i64 (IntKind.i64.wrap (i + 1))) (v := .int .i64 (i + 1)) (congrArg (Value.int .i64) (IntWalk.i64_in _ (by omega))) (k := ?_)
      refine WL.op (d := 9) (.int .i64 (i + 1)) (k := ?_)
      refine WL.nil ?_
      refine WX.rw (t := 4) (v := .int .u32 ((beval (List.take (i + 1).toNat l) : Nat) : Int)) (congrArg (fun n : Nat => Value.int .u32 (n : Int)) (beU_succ i0 (by omega))) (k := ?_)
      refine WX.round (i + 1) (by show (4 - (i + 1)).toNat < (4 - i).toNat; omega) ⟨(by kernel_rfl), (by kernel_rfl), (by kernel_rfl), (by kernel_rfl), (by kernel_rfl), (by kernel_rfl), (by kernel_rfl), (by kernel_rfl), trivial⟩ ⟨K, (by omega), (by omega)⟩
    · have ph3 := of_decide_eq_false h3
      refine WC.exit ?_
      refine WX.seqE ?_
      refine WX.seqE ?_
      refine WX.blockE ?_
      refine WX.seqN ?_
      refine WC.seq ?_
      refine WC.region ?_
      refine WL.op (d := 20) (.int .u32 ((beval (List.take i.toNat l) : Nat) : Int)) (k := ?_)
      refine WL.op (d := 2) (.int .u32 ((beval (List.take i.toNat l) : Nat) : Int)) (k := ?_)
      refine WL.op (d := 3) (.bool true) (k := ?_)
      refine WL.nil ?_
      refine WX.seqN ?_
      refine WC.ret ?_
      refine WX.ret (rs := [.tmp 2, .tmp 3]) [.int .u32 ((beval (List.take i.toNat l) : Nat) : Int), .bool true] (.tuple #[.int .u32 ((beval (List.take i.toNat l) : Nat) : Int), .bool true]) ⟨(by kernel_rfl), (by kernel_rfl), trivial⟩ (k := ?_)
      obtain rfl : i = 4 := by omega
      exact ⟨rfl, K⟩
set_option maxRecDepth 100000 in
set_option maxHeartbeats 4000000 in
theorem u02more_c {n : Nat} (hn : n < 4294967296) (c : UInt8) (w : World) : Calls Tryz.prog 79 #[.int .u32 (n : Int), .int .u8 (c.toNat : Int)] w fun e w' => e = .returned (.int .u32 ((upd n c : Nat) : Int)) ∧ Adds w w' := by
  have K : Keeps (fun _ => False) w w := Keeps.refl _ w
  have ub_ := u8_lt c
  refine Calls.start Tryz.func79 rfl (by kernel_rfl) ?_
  refine WC.seq ?_
  refine WC.region ?_
  refine WL.op (d := 4) (.int .u32 0) (k := ?_)
  refine WL.nil ?_
  refine WX.seqN ?_
  refine WC.seq ?_
  refine WC.region ?_
  refine WL.op (d := 7) (.int .u32 (n : Int)) (k := ?_)
  refine WL.op (d := 8) (.int .u8 (c.toNat : Int)) (k := ?_)
  refine WL.opE (d := 9) (.int .u32 (IntKind.u32.wrap (c.toNat : Int))) (v := .int .u32 (c.toNat : Int)) (congrArg (Value.int .u32) (IntWalk.u32_in _ (by omega))) (k := ?_)
  refine WL.bin (d := 10) (v := .int .u32 (bits BinOp.xor IntKind.u32 (n : Int) (c.toNat : Int))) (bits_run (by decide)) (k := ?_)
  refine WL.rw (t := 10) (v := .int .u32 ((n ^^^ c.toNat : Nat) : Int)) (congrArg (Value.int .u32) (bits_xor32 (a := n) (b := c.toNat) (by omega) (by omega))) (k := ?_)
  have xb1 : n ^^^ c.toNat < 4294967296 := xor_lt (k := 32) (by omega) (by omega)
  refine WL.op (d := 0) (.int .u32 ((n ^^^ c.toNat : Nat) : Int)) (k := ?_)
  refine WL.nil ?_
  refine WX.seqN ?_
  refine WC.seq ?_
  refine WC.seq ?_
  refine WC.region ?_
  refine WL.op (d := 5) (.int .i64 0) (k := ?_)
  refine WL.nil ?_
  refine WX.seqN ?_
  refine WC.block ?_
  refine WC.loop (ι := Int) (fun (i : Int) => [(1, .int .u8 (c.toNat : Int)), (4, .int .u32 0), (7, .int .u32 (n : Int)), (8, .int .u8 (c.toNat : Int)), (9, .int .u32 (c.toNat : Int)), (10, .int .u32 ((n ^^^ c.toNat : Nat) : Int)), (5, .int .i64 i), (0, .int .u32 ((stpN i.toNat (n ^^^ c.toNat) : Nat) : Int))]) (fun (i : Int) (w_ : World) => (Keeps (fun _ => False) w w_) ∧ (0 ≤ i) ∧ (i ≤ 8)) (fun (i : Int) => (8 - i).toNat) 0 ⟨(by kernel_rfl), (by kernel_rfl), (by kernel_rfl), (by kernel_rfl), (by kernel_rfl), (by kernel_rfl), (by kernel_rfl), (by kernel_rfl), trivial⟩ ⟨K, Int.le_refl 0, (by decide)⟩ ?_
  rintro i w2 ⟨K, i0, i1⟩
  have sl_ := stpN_lt (n := n ^^^ c.toNat) (by omega) i.toNat
  refine WC.seq ?_
  refine WC.seq ?_
  refine WC.region ?_
  refine WL.op (d := 11) (.int .i64 i) (k := ?_)
  refine WL.op (d := 12) (.bool (decide (i < 8))) (k := ?_)
  refine WL.nil ?_
  refine WX.seqN ?_
  refine WC.cond (b := decide (i < 8)) (ht := fun h3 => ?_) (hf := fun h3 => ?_)
  · have ph3 := of_decide_eq_true h3
    refine WC.skip ?_
    refine WX.seqN ?_
    refine WC.seq ?_
    refine WC.block ?_
    refine WC.seq ?_
    refine WC.region ?_
    refine WL.op (d := 15) (.int .u32 ((stpN i.toNat (n ^^^ c.toNat) : Nat) : Int)) (k := ?_)
    refine WL.bin (d := 16) (v := .int .u32 (Int.tmod ((stpN i.toNat (n ^^^ c.toNat) : Nat) : Int) 2)) (rem_run (by omega)) (k := ?_)
    refine WL.rw (t := 16) (v := .int .u32 (((stpN i.toNat (n ^^^ c.toNat)) % 2 : Nat) : Int)) (congrArg (Value.int .u32) (tmod_nat (stpN i.toNat (n ^^^ c.toNat)) 2)) (k := ?_)
    refine WL.op (d := 6) (.int .u32 (((stpN i.toNat (n ^^^ c.toNat)) % 2 : Nat) : Int)) (k := ?_)
    refine WL.nil ?_
    refine WX.seqN ?_
    refine WC.seq ?_
    refine WC.region ?_
    refine WL.op (d := 17) (.int .u32 ((stpN i.toNat (n ^^^ c.toNat) : Nat) : Int)) (k := ?_)
    refine WL.bin (d := 18) (v := .int .u32 (IntKind.u32.wrap (Int.tdiv ((stpN i.toNat (n ^^^ c.toNat) : Nat) : Int) 2))) (quo_run (by omega)) (k := ?_)
    refine WL.rw (t := 18) (v := .int .u32 (((stpN i.toNat (n ^^^ c.toNat)) / 2 : Nat) : Int)) (congrArg (Value.int .u32) (quo32 2 (by omega))) (k := ?_)
    refine WL.op (d := 0) (.int .u32 (((stpN i.toNat (n ^^^ c.toNat)) / 2 : Nat) : Int)) (k := ?_)
    refine WL.nil ?_
    refine WX.seqN ?_
    refine WC.seq ?_
    refine WC.region ?_
    refine WL.op (d := 19) (.int .u32 (((stpN i.toNat (n ^^^ c.toNat)) % 2 : Nat) : Int)) (k := ?_)
    refine WL.op (d := 20) (.bool ((((stpN i.toNat (n ^^^ c.toNat)) % 2 : Nat) : Int) == 1)) (k := ?_)
    refine WL.nil ?_
    refine WX.seqN ?_
    refine WC.cond (b := (((stpN i.toNat (n ^^^ c.toNat)) % 2 : Nat) : Int) == 1) (ht := fun h4 => ?_) (hf := fun h4 => ?_)
    · have ph4 := eq_of_beq h4
      refine WC.region ?_
      refine WL.op (d := 21) (.int .u32 (((stpN i.toNat (n ^^^ c.toNat)) / 2 : Nat) : Int)) (k := ?_)
      refine WL.bin (d := 22) (v := .int .u32 (bits BinOp.xor IntKind.u32 (((stpN i.toNat (n ^^^ c.toNat)) / 2 : Nat) : Int) 3988292384)) (bits_run (by decide)) (k := ?_)
      refine WL.rw (t := 22) (v := .int .u32 ((((stpN i.toNat (n ^^^ c.toNat)) / 2) ^^^ 3988292384 : Nat) : Int)) (congrArg (Value.int .u32) (bits_xor32 (a := ((stpN i.toNat (n ^^^ c.toNat)) / 2)) (b := 3988292384) (by omega) (by omega))) (k := ?_)
      have xb5 : ((stpN i.toNat (n ^^^ c.toNat)) / 2) ^^^ 3988292384 < 4294967296 := xor_lt (k := 32) (by omega) (by omega)
      refine WL.op (d := 0) (.int .u32 ((((stpN i.toNat (n ^^^ c.toNat)) / 2) ^^^ 3988292384 : Nat) : Int)) (k := ?_)
      refine WL.nil ?_
      refine WX.blockN ?_
      refine WX.seqN ?_
      refine WC.region ?_
      refine WL.op (d := 13) (.int .i64 i) (k := ?_)
      refine WL.opE (d := 14) (.int .i64 (IntKind.i64.wrap (i + 1))) (v := .int .i64 (i + 1)) (congrArg (Value.int .i64) (IntWalk.i64_in _ (by omega))) (k := ?_)
      refine WL.op (d := 5) (.int .i64 (i + 1)) (k := ?_)
      refine WL.nil ?_
      refine WX.rw (t := 0) (v := .int .u32 ((stpN (i + 1).toNat (n ^^^ c.toNat) : Nat) : Int)) (congrArg (fun n : Nat => Value.int .u32 (n : Int)) (stpN_odd i0 (by omega))) (k := ?_)
      refine WX.round (i + 1) (by show (8 - (i + 1)).toNat < (8 - i).toNat; omega) ⟨(by kernel_rfl), (by kernel_rfl), (by kernel_rfl), (by kernel_rfl), (by kernel_rfl), (by kernel_rfl), (by kernel_rfl), (by kernel_rfl), trivial⟩ ⟨K, (by omega), (by omega)⟩
    · have ph4 := ne_of_beq_false h4
      refine WC.skip ?_
      refine WX.blockN ?_
      refine WX.seqN ?_
      refine WC.region ?_
      refine WL.op (d := 13) (.int .i64 i) (k := ?_)
      refine WL.opE (d := 14) (.int .i64 (IntKind.i64.wrap (i + 1))) (v := .int .i64 (i + 1)) (congrArg (Value.int .i64) (IntWalk.i64_in _ (by omega))) (k := ?_)
      refine WL.op (d := 5) (.int .i64 (i + 1)) (k := ?_)
      refine WL.nil ?_
      refine WX.rw (t := 0) (v := .int .u32 ((stpN (i + 1).toNat (n ^^^ c.toNat) : Nat) : Int)) (congrArg (fun n : Nat => Value.int .u32 (n : Int)) (stpN_even i0 (by omega))) (k := ?_)
      refine WX.round (i + 1) (by show (8 - (i + 1)).toNat < (8 - i).toNat; omega) ⟨(by kernel_rfl), (by kernel_rfl), (by kernel_rfl), (by kernel_rfl), (by kernel_rfl), (by kernel_rfl), (by kernel_rfl), (by kernel_rfl), trivial⟩ ⟨K, (by omega), (by omega)⟩
  · have ph3 := of_decide_eq_false h3
    refine WC.exit ?_
    refine WX.seqE ?_
    refine WX.seqE ?_
    refine WX.blockE ?_
    refine WX.seqN ?_
    refine WC.seq ?_
    refine WC.region ?_
    refine WL.op (d := 23) (.int .u32 ((stpN i.toNat (n ^^^ c.toNat) : Nat) : Int)) (k := ?_)
    refine WL.op (d := 4) (.int .u32 ((stpN i.toNat (n ^^^ c.toNat) : Nat) : Int)) (k := ?_)
    refine WL.nil ?_
    refine WX.seqN ?_
    refine WC.ret ?_
    refine WX.ret (rs := [.tmp 4]) [.int .u32 ((stpN i.toNat (n ^^^ c.toNat) : Nat) : Int)] (.int .u32 ((stpN i.toNat (n ^^^ c.toNat) : Nat) : Int)) ⟨(by kernel_rfl), trivial⟩ (k := ?_)
    obtain rfl : i = 8 := by omega
    exact ⟨rfl, K⟩
set_option maxRecDepth 100000 in
set_option maxHeartbeats 4000000 in
theorem u02More_c {l : List UInt8} (hm : l.length ≤ 1000000) (w : World) : Calls Tryz.prog 62 #[.int .u32 0, .string ⟨l.toArray⟩] w fun e w' => e = .returned (.int .u32 ((crc l : Nat) : Int)) ∧ Adds w w' := by
  have K : Keeps (fun _ => False) w w := Keeps.refl _ w
  refine Calls.start Tryz.func62 rfl (by kernel_rfl) ?_
  refine WC.seq ?_
  refine WC.region ?_
  refine WL.op (d := 4) (.int .u32 0) (k := ?_)
  refine WL.nil ?_
  refine WX.seqN ?_
  refine WC.seq ?_
  refine WC.region ?_
  refine WL.op (d := 7) (.int .u32 0) (k := ?_)
  refine WL.op (d := 8) (.int .u32 4294967295) (k := ?_)
  refine WL.op (d := 5) (.int .u32 4294967295) (k := ?_)
  refine WL.nil ?_
  refine WX.seqN ?_
  refine WC.seq ?_
  refine WC.seq ?_
  refine WC.region ?_
  refine WL.op (d := 6) (.int .i64 0) (k := ?_)
  refine WL.nil ?_
  refine WX.seqN ?_
  refine WC.block ?_
  refine WC.loop (ι := Int) (fun (i : Int) => [(0, .int .u32 0), (1, .string ⟨(l).toArray⟩), (4, .int .u32 0), (7, .int .u32 0), (8, .int .u32 4294967295), (6, .int .i64 i), (5, .int .u32 ((crcF 4294967295 (List.take i.toNat l) : Nat) : Int))]) (fun (i : Int) (w_ : World) => (Keeps (fun _ => False) w w_) ∧ (0 ≤ i) ∧ (i ≤ l.length)) (fun (i : Int) => (l.length - i).toNat) 0 ⟨(by kernel_rfl), (by kernel_rfl), (by kernel_rfl), (by kernel_rfl), (by kernel_rfl), (by kernel_rfl), (by kernel_rfl), trivial⟩ ⟨K, Int.le_refl 0, (by omega)⟩ ?_
  rintro i w1 ⟨K, i0, i1⟩
  have sl_ := crcF_lt (n := 4294967295) (by decide) (List.take i.toNat l)
  refine WC.seq ?_
  refine WC.seq ?_
  refine WC.region ?_
  refine WL.op (d := 9) (.int .i64 i) (k := ?_)
  refine WL.op (d := 10) (.string ⟨(l).toArray⟩) (k := ?_)
  refine WL.op (d := 11) (.int .i64 (l.length : Int)) (k := ?_)
  refine WL.op (d := 12) (.bool (decide (i < (l.length : Int)))) (k := ?_)
  refine WL.nil ?_
  refine WX.seqN ?_
  refine WC.cond (b := decide (i < (l.length : Int))) (ht := fun h2 => ?_) (hf := fun h2 => ?_)
  · have ph2 := of_decide_eq_true h2
    refine WC.skip ?_
    refine WX.seqN ?_
    refine WC.seq ?_
    refine WC.block ?_
    refine WC.region ?_
    refine WL.op (d := 15) (.int .u32 ((crcF 4294967295 (List.take i.toNat l) : Nat) : Int)) (k := ?_)
    refine WL.op (d := 16) (.string ⟨(l).toArray⟩) (k := ?_)
    refine WL.op (d := 17) (.int .i64 i) (k := ?_)
    refine WL.strAt (T := 9) (l := l) (i := i) (kk := .i64) (d := 18) (by omega) (by first | omega | (simp; omega)) (by kernel_rfl) (by kernel_rfl) (by kernel_rfl) (by kernel_rfl) (by kernel_rfl) ?_
    have ub3 := u8_lt (List.getD l (i).toNat 0)
    refine WL.callG (d := 19) (f := 79) (args := #[.int .u32 ((crcF 4294967295 (List.take i.toNat l) : Nat) : Int), .int .u8 ((List.getD l (i).toNat 0).toNat : Int)]) (u02more_c (n := crcF 4294967295 (List.take i.toNat l)) (by omega) (List.getD l (i).toNat 0) w1) (k := fun e_ w4 h_ => ⟨.int .u32 ((upd (crcF 4294967295 (List.take i.toNat l)) (List.getD l (i).toNat 0) : Nat) : Int), h_.1, ?_⟩)
    have k5 := h_.2; clear h_
    replace K := K.trans (k5.any _)
    refine WL.op (d := 5) (.int .u32 ((upd (crcF 4294967295 (List.take i.toNat l)) (List.getD l (i).toNat 0) : Nat) : Int)) (k := ?_)
    refine WL.nil ?_
    refine WX.blockN ?_
    refine WX.seqN ?_
    refine WC.region ?_
    refine WL.op (d := 13) (.int .i64 i) (k := ?_)
    refine WL.opE (d := 14) (.int .i64 (IntKind.i64.wrap (i + 1))) (v := .int .i64 (i + 1)) (congrArg (Value.int .i64) (IntWalk.i64_in _ (by omega))) (k := ?_)
    refine WL.op (d := 6) (.int .i64 (i + 1)) (k := ?_)
    refine WL.nil ?_
    refine WX.rw (t := 5) (v := .int .u32 ((crcF 4294967295 (List.take (i + 1).toNat l) : Nat) : Int)) (congrArg (fun n : Nat => Value.int .u32 (n : Int)) (crcU_succ i0 (by omega))) (k := ?_)
    refine WX.round (i + 1) (by show (l.length - (i + 1)).toNat < (l.length - i).toNat; omega) ⟨(by kernel_rfl), (by kernel_rfl), (by kernel_rfl), (by kernel_rfl), (by kernel_rfl), (by kernel_rfl), (by kernel_rfl), trivial⟩ ⟨K, (by omega), (by omega)⟩
  · have ph2 := of_decide_eq_false h2
    refine WC.exit ?_
    refine WX.seqE ?_
    refine WX.seqE ?_
    refine WX.blockE ?_
    refine WX.seqN ?_
    refine WC.seq ?_
    refine WC.region ?_
    refine WL.op (d := 20) (.int .u32 ((crcF 4294967295 (List.take i.toNat l) : Nat) : Int)) (k := ?_)
    refine WL.opE (d := 21) (.int .u32 (bits BinOp.xor IntKind.u32 4294967295 ((crcF 4294967295 (List.take i.toNat l) : Nat) : Int))) (v := .int .u32 ((4294967295 - (crcF 4294967295 (List.take i.toNat l)) : Nat) : Int)) (congrArg (Value.int .u32) (not32 (by omega))) (k := ?_)
    refine WL.op (d := 4) (.int .u32 ((4294967295 - (crcF 4294967295 (List.take i.toNat l)) : Nat) : Int)) (k := ?_)
    refine WL.nil ?_
    refine WX.seqN ?_
    refine WC.ret ?_
    refine WX.ret (rs := [.tmp 4]) [.int .u32 ((4294967295 - (crcF 4294967295 (List.take i.toNat l)) : Nat) : Int)] (.int .u32 ((4294967295 - (crcF 4294967295 (List.take i.toNat l)) : Nat) : Int)) ⟨(by kernel_rfl), trivial⟩ (k := ?_)
    have e_ : List.take i.toNat l = l := List.take_of_length_le (by omega)
    exact ⟨by rw [e_]; rfl, K⟩
set_option maxRecDepth 100000 in
set_option maxHeartbeats 4000000 in
theorem u02Sum_c {l : List UInt8} (hm : l.length ≤ 1000000) (w : World) : Calls Tryz.prog 49 #[.string ⟨l.toArray⟩] w fun e w' => e = .returned (.int .u32 ((crc l : Nat) : Int)) ∧ Adds w w' := by
  have K : Keeps (fun _ => False) w w := Keeps.refl _ w
  refine Calls.start Tryz.func49 rfl (by kernel_rfl) ?_
  refine WC.seq ?_
  refine WC.region ?_
  refine WL.op (d := 2) (.int .u32 0) (k := ?_)
  refine WL.nil ?_
  refine WX.seqN ?_
  refine WC.seq ?_
  refine WC.region ?_
  refine WL.op (d := 3) (.string ⟨(l).toArray⟩) (k := ?_)
  refine WL.callG (d := 4) (f := 62) (args := #[.int .u32 0, .string ⟨(l).toArray⟩]) (u02More_c (l := l) (by show List.length l ≤ _; first | omega | (simp; done) | (simp; omega)) w) (k := fun e_ w1 h_ => ⟨.int .u32 ((crc l : Nat) : Int), h_.1, ?_⟩)
  have k2 := h_.2; clear h_
  replace K := K.trans (k2.any _)
  refine WL.op (d := 2) (.int .u32 ((crc l : Nat) : Int)) (k := ?_)
  refine WL.nil ?_
  refine WX.seqN ?_
  refine WC.ret ?_
  refine WX.ret (rs := [.tmp 2]) [.int .u32 ((crc l : Nat) : Int)] (.int .u32 ((crc l : Nat) : Int)) ⟨(by kernel_rfl), trivial⟩ (k := ?_)
  exact ⟨rfl, K⟩
set_option maxRecDepth 100000 in
set_option maxHeartbeats 4000000 in
theorem cFill_c {b : Nat} {c0 c1 c2 : Value} {w : World} (hb : TabC b c0 c1 c2 (tabF 0) w) : Calls Tryz.prog 86 #[.pointer (some ⟨b, 0, none⟩)] w fun e w' => e = .returned (.tuple #[]) ∧ TabC b c0 c1 c2 (tabF 256) w' ∧ Keeps (fun k => k = b) w w' := by
  have K : Keeps (fun k => k = b) w w := Keeps.refl _ w
  refine Calls.start Tryz.func86 rfl (by kernel_rfl) ?_
  refine WC.seq ?_
  refine WC.region ?_
  refine WL.op (d := 4) (.int .i64 0) (k := ?_)
  refine WL.nil ?_
  refine WX.seqN ?_
  refine WC.block ?_
  refine WC.loop (ι := Int) (fun (j : Int) => [(0, .pointer (some ⟨b, 0, none⟩)), (4, .int .i64 j)]) (fun (j : Int) (w_ : World) => (Keeps (fun k => k = b) w w_) ∧ (TabC b c0 c1 c2 (tabF j) w_) ∧ (0 ≤ j) ∧ (j ≤ 256)) (fun (j : Int) => (256 - j).toNat) 0 ⟨(by kernel_rfl), (by kernel_rfl), trivial⟩ ⟨K, hb, Int.le_refl 0, (by decide)⟩ ?_
  rintro j w1 ⟨K, hb2, j0, j1⟩
  refine WC.seq ?_
  refine WC.region ?_
  refine WL.op (d := 5) (.bool (decide (j < 256))) (k := ?_)
  refine WL.nil ?_
  refine WX.seqN ?_
  refine WC.seq ?_
  refine WC.cond (b := decide (j < 256)) (ht := fun h3 => ?_) (hf := fun h3 => ?_)
  · have ph3 := of_decide_eq_true h3
    refine WC.skip ?_
    refine WX.seqN ?_
    refine WC.seq ?_
    refine WC.block ?_
    refine WC.seq ?_
    refine WC.region ?_
    refine WL.op (d := 6) (.int .i64 j) (k := ?_)
    refine WL.op (d := 2) (.int .i64 j) (k := ?_)
    refine WL.nil ?_
    refine WX.seqN ?_
    refine WC.scope ?_
    refine WC.seq ?_
    refine WC.region ?_
    refine WL.op (d := 7) (.int .i64 j) (k := ?_)
    refine WL.opE (d := 8) (.int .u32 (IntKind.u32.wrap j)) (v := .int .u32 j) (congrArg (Value.int .u32) (IntWalk.u32_in _ (by omega))) (k := ?_)
    refine WL.op (d := 3) (.int .u32 j) (k := ?_)
    refine WL.nil ?_
    refine WX.seqN ?_
    refine WC.seq ?_
    refine WC.label ?_
    refine WX.seqN ?_
    refine WC.seq ?_
    refine WC.seq ?_
    refine WC.region ?_
    refine WL.op (d := 9) (.int .i64 0) (k := ?_)
    refine WL.nil ?_
    refine WX.seqN ?_
    refine WC.block ?_
    refine WC.rw (t := 3) (v := .int .u32 ((stpN (0 : Int).toNat j.toNat : Nat) : Int)) (congrArg (Value.int .u32) (show j = ((stpN (0 : Int).toNat j.toNat : Nat) : Int) from (Int.toNat_of_nonneg j0).symm)) (k := ?_)
    refine WC.loop (ι := Int) (fun (i : Int) => [(0, .pointer (some ⟨b, 0, none⟩)), (4, .int .i64 j), (5, .bool (decide (j < 256))), (6, .int .i64 j), (2, .int .i64 j), (7, .int .i64 j), (8, .int .u32 j), (9, .int .i64 i), (3, .int .u32 ((stpN i.toNat j.toNat : Nat) : Int))]) (fun (i : Int) (w_ : World) => (Keeps (fun k => k = b) w w_) ∧ (TabC b c0 c1 c2 (tabF j) w_) ∧ (0 ≤ i) ∧ (i ≤ 8)) (fun (i : Int) => (8 - i).toNat) 0 ⟨(by kernel_rfl), (by kernel_rfl), (by kernel_rfl), (by kernel_rfl), (by kernel_rfl), (by kernel_rfl), (by kernel_rfl), (by kernel_rfl), (by kernel_rfl), trivial⟩ ⟨K, hb2, Int.le_refl 0, (by decide)⟩ ?_
    rintro i w4 ⟨K, hb5, i0, i1⟩
    have sl_ := stpN_lt (n := j.toNat) (by omega) i.toNat
    refine WC.seq ?_
    refine WC.region ?_
    refine WL.op (d := 10) (.bool (decide (i < 8))) (k := ?_)
    refine WL.nil ?_
    refine WX.seqN ?_
    refine WC.seq ?_
    refine WC.cond (b := decide (i < 8)) (ht := fun h6 => ?_) (hf := fun h6 => ?_)
    · have ph6 := of_decide_eq_true h6
      refine WC.skip ?_
      refine WX.seqN ?_
      refine WC.seq ?_
      refine WC.block ?_
      refine WC.seq ?_
      refine WC.seq ?_
      refine WC.region ?_
      refine WL.op (d := 11) (.int .u32 ((stpN i.toNat j.toNat : Nat) : Int)) (k := ?_)
      refine WL.bin (d := 12) (v := .int .u32 (bits BinOp.and IntKind.u32 ((stpN i.toNat j.toNat : Nat) : Int) 1)) (bits_run (by decide)) (k := ?_)
      refine WL.rw (t := 12) (v := .int .u32 (((stpN i.toNat j.toNat) % 2 : Nat) : Int)) (congrArg (Value.int .u32) (bits_and1u (by omega))) (k := ?_)
      refine WL.op (d := 13) (.bool ((((stpN i.toNat j.toNat) % 2 : Nat) : Int) == 0)) (k := ?_)
      refine WL.nil ?_
      refine WX.seqN ?_
      refine WC.cond (b := (((stpN i.toNat j.toNat) % 2 : Nat) : Int) == 0) (ht := fun h7 => ?_) (hf := fun h7 => ?_)
      · have ph7 := eq_of_beq h7
        refine WC.seq ?_
        refine WC.region ?_
        refine WL.op (d := 14) (.int .u32 ((stpN i.toNat j.toNat : Nat) : Int)) (k := ?_)
        refine WL.bin (d := 15) (v := .int .u32 (((stpN i.toNat j.toNat : Nat) : Int) / 2)) (shr_run (k := .u32) (yk := .u64) (x := ((stpN i.toNat j.toNat : Nat) : Int)) (y := 1) (c := 2) (by decide) (by decide) (by decide)) (k := ?_)
        refine WL.rw (t := 15) (v := .int .u32 (((stpN i.toNat j.toNat) / 2 : Nat) : Int)) (congrArg (Value.int .u32) (nat_div (stpN i.toNat j.toNat) 2)) (k := ?_)
        refine WL.op (d := 3) (.int .u32 (((stpN i.toNat j.toNat) / 2 : Nat) : Int)) (k := ?_)
        refine WL.nil ?_
        refine WX.seqN ?_
        refine WC.exit ?_
        refine WX.seqE ?_
        refine WX.blockE ?_
        refine WX.seqN ?_
        refine WC.region ?_
        refine WL.opE (d := 19) (.int .i64 (IntKind.i64.wrap (i + 1))) (v := .int .i64 (i + 1)) (congrArg (Value.int .i64) (IntWalk.i64_in _ (by omega))) (k := ?_)
        refine WL.op (d := 9) (.int .i64 (i + 1)) (k := ?_)
        refine WL.nil ?_
        refine WX.rw (t := 3) (v := .int .u32 ((stpN (i + 1).toNat j.toNat : Nat) : Int)) (congrArg (fun n : Nat => Value.int .u32 (n : Int)) (stpN_even i0 (by omega))) (k := ?_)
        refine WX.round (i + 1) (by show (8 - (i + 1)).toNat < (8 - i).toNat; omega) ⟨(by kernel_rfl), (by kernel_rfl), (by kernel_rfl), (by kernel_rfl), (by kernel_rfl), (by kernel_rfl), (by kernel_rfl), (by kernel_rfl), (by kernel_rfl), trivial⟩ ⟨K, hb5, (by omega), (by omega)⟩
      · have ph7 := ne_of_beq_false h7
        refine WC.skip ?_
        refine WX.seqN ?_
        refine WC.region ?_
        refine WL.op (d := 16) (.int .u32 ((stpN i.toNat j.toNat : Nat) : Int)) (k := ?_)
        refine WL.bin (d := 17) (v := .int .u32 (((stpN i.toNat j.toNat : Nat) : Int) / 2)) (shr_run (k := .u32) (yk := .u64) (x := ((stpN i.toNat j.toNat : Nat) : Int)) (y := 1) (c := 2) (by decide) (by decide) (by decide)) (k := ?_)
        refine WL.rw (t := 17) (v := .int .u32 (((stpN i.toNat j.toNat) / 2 : Nat) : Int)) (congrArg (Value.int .u32) (nat_div (stpN i.toNat j.toNat) 2)) (k := ?_)
        refine WL.bin (d := 18) (v := .int .u32 (bits BinOp.xor IntKind.u32 (((stpN i.toNat j.toNat) / 2 : Nat) : Int) 3988292384)) (bits_run (by decide)) (k := ?_)
        refine WL.rw (t := 18) (v := .int .u32 ((((stpN i.toNat j.toNat) / 2) ^^^ 3988292384 : Nat) : Int)) (congrArg (Value.int .u32) (bits_xor32 (a := ((stpN i.toNat j.toNat) / 2)) (b := 3988292384) (by omega) (by omega))) (k := ?_)
        have xb8 : ((stpN i.toNat j.toNat) / 2) ^^^ 3988292384 < 4294967296 := xor_lt (k := 32) (by omega) (by omega)
        refine WL.op (d := 3) (.int .u32 ((((stpN i.toNat j.toNat) / 2) ^^^ 3988292384 : Nat) : Int)) (k := ?_)
        refine WL.nil ?_
        refine WX.blockN ?_
        refine WX.seqN ?_
        refine WC.region ?_
        refine WL.opE (d := 19) (.int .i64 (IntKind.i64.wrap (i + 1))) (v := .int .i64 (i + 1)) (congrArg (Value.int .i64) (IntWalk.i64_in _ (by omega))) (k := ?_)
        refine WL.op (d := 9) (.int .i64 (i + 1)) (k := ?_)
        refine WL.nil ?_
        refine WX.rw (t := 3) (v := .int .u32 ((stpN (i + 1).toNat j.toNat : Nat) : Int)) (congrArg (fun n : Nat => Value.int .u32 (n : Int)) (stpN_odd i0 (by omega))) (k := ?_)
        refine WX.round (i + 1) (by show (8 - (i + 1)).toNat < (8 - i).toNat; omega) ⟨(by kernel_rfl), (by kernel_rfl), (by kernel_rfl), (by kernel_rfl), (by kernel_rfl), (by kernel_rfl), (by kernel_rfl), (by kernel_rfl), (by kernel_rfl), trivial⟩ ⟨K, hb5, (by omega), (by omega)⟩
    · have ph6 := of_decide_eq_false h6
      refine WC.exit ?_
      refine WX.seqE ?_
      refine WX.seqE ?_
      refine WX.blockE ?_
      refine WX.seqN ?_
      refine WC.region ?_
      refine WL.op (d := 20) (.pointer (some ⟨b, 0, none⟩)) (k := ?_)
      refine WL.op (d := 21) (.int .i64 j) (k := ?_)
      refine WL.op (d := 22) (.int .u32 ((stpN i.toNat j.toNat : Nat) : Int)) (k := ?_)
      refine WL.op (d := 23) (.pointer (some ⟨b, 0, none⟩)) (k := ?_)
      refine WL.op (d := 24) (.pointer (some ⟨b, 3, none⟩)) (k := ?_)
      refine WL.idxA (T := 120) (E := 94) (N := 256) (m := 1) (b := b) (o := 3) (i := j) (kk := .i64) (d := 25) (by omega) (by omega) (by kernel_rfl) (by kernel_rfl) (by kernel_rfl) (by kernel_rfl) (by kernel_rfl) (by kernel_rfl) ?_
      obtain ⟨w9, hs10, hy11, k12⟩ := tab_st (j := (j).toNat) hb5 (by omega) (stpN i.toNat j.toNat)
      refine WL.wr (v := .int .u32 ((stpN i.toNat j.toNat : Nat) : Int)) hs10 (k := ?_)
      replace K := K.trans' k12 (fun i hi e => e)
      clear hs10 hb5
      refine WL.nil ?_
      refine WX.scopeN ?_
      refine WX.blockN ?_
      refine WX.seqN ?_
      refine WC.region ?_
      refine WL.opE (d := 26) (.int .i64 (IntKind.i64.wrap (j + 1))) (v := .int .i64 (j + 1)) (congrArg (Value.int .i64) (IntWalk.i64_in _ (by omega))) (k := ?_)
      refine WL.op (d := 4) (.int .i64 (j + 1)) (k := ?_)
      refine WL.nil ?_
      have ef_ : List.set (tabF j) (j).toNat (stpN i.toNat j.toNat) = tabF (j + 1) := by rw [show i = 8 by omega]; exact tabF_set j0 (by omega)
      rw [ef_] at hy11
      refine WX.round (j + 1) (by show (256 - (j + 1)).toNat < (256 - j).toNat; omega) ⟨(by kernel_rfl), (by kernel_rfl), trivial⟩ ⟨K, hy11, (by omega), (by omega)⟩
  · have ph3 := of_decide_eq_false h3
    refine WC.exit ?_
    refine WX.seqE ?_
    refine WX.seqE ?_
    refine WX.blockE ?_
    refine WX.end (rs := []) [] (.tuple #[]) trivial (k := ?_)
    obtain rfl : j = 256 := by omega
    exact ⟨rfl, hb2, K⟩
end Go.Proofs.YtnkkbeafcfjkmaaGreatDoor
namespace Go.Proofs.YtnkkbeafcfjkmaaGreatDoor
open Go.RowKit
set_option linter.unusedVariables false
set_option linter.unusedSimpArgs false
theorem raceDisable_c (w : World) : (callFunc 112 #[]).run Tryz.prog w = .ok (.value (.tuple #[])) w := run_call_mark0 Tryz.func112 (by kernel_rfl) (by kernel_rfl) (by kernel_rfl) .disable (by kernel_rfl) w
theorem raceEnable_c (w : World) : (callFunc 114 #[]).run Tryz.prog w = .ok (.value (.tuple #[])) w := run_call_mark0 Tryz.func114 (by kernel_rfl) (by kernel_rfl) (by kernel_rfl) .enable (by kernel_rfl) w
theorem raceAcquire_c (a : Addr) (w : World) : (callFunc 115 #[.pointer (some a)]).run Tryz.prog w = .ok (.value (.tuple #[])) w := run_call_marked Tryz.func115 (by kernel_rfl) (by kernel_rfl) (by kernel_rfl) .acquire (by kernel_rfl) a w
theorem raceRelMerge_c (a : Addr) (w : World) : (callFunc 117 #[.pointer (some a)]).run Tryz.prog w = .ok (.value (.tuple #[])) w := run_call_marked Tryz.func117 (by kernel_rfl) (by kernel_rfl) (by kernel_rfl) .releaseMerge (by kernel_rfl) a w
set_option maxRecDepth 100000 in
theorem store_deferred (a : Addr) (x : Value) (u : FrameMode) (w : World) (hc : w.cell? a = some x) (hz : w.frozen? a = false) :
    CallsD Tryz.prog 105 #[.pointer (some a), .bool true] u w fun e u' w' => u' = u ∧ (e = .returned (.tuple #[]) ∧ w' = w.drew.setCell a (.int .u32 1)) := by
  have hc' : w.drew.cell? a = some x := by go_simp
  have hz' : w.drew.frozen? a = false := by go_simp
  have hst := run_call_store (P := Tryz.prog) Tryz.func109 (by kernel_rfl) (by kernel_rfl) (by kernel_rfl) (by kernel_rfl) (k := .u32) (y := 1) hc' hz'
  go_enter_d Tryz.func105, Tryz.ntmps105
  go_wp2
  go_region_calls
  all_goals (go_end0; exact ⟨rfl, rfl⟩)
set_option maxRecDepth 100000 in
theorem unlock_deferred (a : Addr) (u : FrameMode) (w : World) (hc : w.cell? a = some (.int .i32 1)) (hz : w.frozen? a = false) :
    CallsD Tryz.prog 104 #[.pointer (some a)] u w fun e u' w' => u' = u ∧ (e = .returned (.tuple #[]) ∧ w' = w.setCell a (.int .i32 0)) := by
  have hd := raceDisable_c
  have he := raceEnable_c
  have hr := raceRelMerge_c
  have hadd := run_call_add (P := Tryz.prog) Tryz.func118 (by kernel_rfl) (by kernel_rfl) (by kernel_rfl) .i32 (by kernel_rfl) (y := -1) (s := 0) hc hz (by simp [go_sem]; rfl)
  have hcv := run_convert_to_unsafe (P := Tryz.prog) (src := 174) (dst := 155) Tryz.underlying174 Tryz.underlying155 (by kernel_rfl) hc
  go_enter_d Tryz.func104, Tryz.ntmps104
  go_wp2
  go_end0
  go_wp2
  go_end0
  exact ⟨rfl, rfl⟩
set_option maxRecDepth 100000 in
theorem lock_free (a : Addr) (w : World) (hc : w.cell? a = some (.int .i32 0)) (hz : w.frozen? a = false) :
    Calls Tryz.prog 103 #[.pointer (some a)] w fun e w' => e = .returned (.tuple #[]) ∧ w' = w.setCell a (.int .i32 1) := by
  have hd := raceDisable_c
  have he := raceEnable_c
  have ha := raceAcquire_c
  have hcas := run_call_cas_hit (P := Tryz.prog) Tryz.func113 (by kernel_rfl) (by kernel_rfl) (by kernel_rfl) .i32 (by kernel_rfl) (y := 1) hc hz
  have hc' : (w.setCell a (.int .i32 1)).cell? a = some (.int .i32 1) := World.cell?_setCell_same w a _ hc
  have hcv := run_convert_to_unsafe (P := Tryz.prog) (src := 174) (dst := 155) Tryz.underlying174 Tryz.underlying155 (by kernel_rfl) hc'
  go_enter Tryz.func103, Tryz.ntmps103
  go_wp2
  first | go_end0 | (simp only [Exit.inBlock, Exit.then]; refine bodyPost_ret (results_none rfl _ _ _) rfl ?_) | refine bodyPost_ret (results_none rfl _ _ _) rfl ?_
  go_wp2
  go_end0
  exact ⟨rfl, rfl⟩
set_option maxRecDepth 100000 in
set_option maxHeartbeats 1600000 in
theorem onceSlow_c {b : Nat} {c2 : Value} {w : World} (hb : TabC b (.int .u32 0) (.int .i32 0) c2 (tabF 0) w) :
    Calls Tryz.prog 96 #[.pointer (some ⟨b, 0, none⟩), .func (.func 86) #[.pointer (some ⟨b, 0, none⟩)] #[]] w fun e w' => e = .returned (.tuple #[]) ∧ TabC b (.int .u32 1) (.int .i32 0) c2 (tabF 256) w' ∧ Keeps (fun k => k = b) w w' := by
  have hnot : ∀ (x : Bool) (w : World), (Op.unary .not (.bool x)).run Tryz.prog w = .ok (.bool (!x)) w := fun _ _ => rfl
  obtain ⟨h1, k1⟩ := hb.set1 (.int .i32 1)
  generalize hW : w.setCell ⟨b, 1, none⟩ (.int .i32 1) = w1 at h1 k1
  have hl := run_call_load (P := Tryz.prog) Tryz.func102 (by kernel_rfl) (by kernel_rfl) (by kernel_rfl) .u32 (by kernel_rfl) (w := w1) (a := ⟨b, 0, none⟩) (x := 0) h1.g0
  go_enter_defers Tryz.func96, Tryz.ntmps96
  go_wp2_with (go_at_call 103; refine (lock_free ⟨b, 0 + 1, none⟩ _ hb.g1 (hb.free _)).mono ?_; rintro e w' ⟨rfl, rfl⟩)
  go_wp2_with (first | (go_at_call 86; refine (cFill_c h1).mono ?_; rintro e w2 ⟨rfl, h2, k2⟩) | (go_at_call 95; go_in))
  go_wp2
  refine leaves_cons (f := 105) (args := #[.pointer (some ⟨b, 0, none⟩), .bool true]) (by simp) (by simp [go_sem]) ?_
  refine (store_deferred ⟨b, 0, none⟩ (.int .u32 0) .returning _ h2.g0 (h2.free _)).mono ?_
  rintro e u' w'' ⟨rfl, rfl, rfl⟩
  have kd : Keeps (fun k => k = b) w2 w2.drew := (Keeps.refl _ w2).drew
  have h2d : TabC b (.int .u32 0) (.int .i32 1) c2 (tabF 256) w2.drew := h2.keeps ((Keeps.refl (fun _ => False) w2).drew) id
  obtain ⟨h3, k3⟩ := h2d.set0 (.int .u32 1)
  refine leaves_cons (f := 104) (args := #[.pointer (some ⟨b, 1, none⟩)]) (by simp [settle]) (by simp [go_sem]) ?_
  refine (unlock_deferred ⟨b, 1, none⟩ _ _ h3.g1 (h3.free _)).mono ?_
  rintro e u' w'' ⟨rfl, rfl, rfl⟩
  obtain ⟨h4, k4⟩ := h3.set1 (.int .i32 0)
  have kk : Keeps (fun k => k = b) w _ := (((k1.trans k2).trans kd).trans k3).trans k4
  simp [Leaves, settle, results, Tryz.results96]
  exact ⟨h4, kk⟩
theorem onceDo_c {b : Nat} {c2 : Value} {w : World} (hb : TabC b (.int .u32 0) (.int .i32 0) c2 (tabF 0) w) :
    Calls Tryz.prog 85 #[.pointer (some ⟨b, 0, none⟩), .func (.func 86) #[.pointer (some ⟨b, 0, none⟩)] #[]] w fun e w' => e = .returned (.tuple #[]) ∧ TabC b (.int .u32 1) (.int .i32 0) c2 (tabF 256) w' ∧ Keeps (fun k => k = b) w w' := by
  have hnot : ∀ (x : Bool) (w : World), (Op.unary .not (.bool x)).run Tryz.prog w = .ok (.bool (!x)) w := fun _ _ => rfl
  have hl := run_call_load (P := Tryz.prog) Tryz.func102 (by kernel_rfl) (by kernel_rfl) (by kernel_rfl) .u32 (by kernel_rfl) (w := w) (a := ⟨b, 0, none⟩) (x := 0) hb.g0
  go_enter Tryz.func85, Tryz.ntmps85
  go_wp2_with (first | (go_at_call 96; refine (onceSlow_c hb).mono ?_; rintro e w2 ⟨rfl, h2, k2⟩) | (go_at_call 95; go_in))
  go_wp2
  go_end0
  exact ⟨rfl, h2, k2⟩
end Go.Proofs.YtnkkbeafcfjkmaaGreatDoor
namespace Go.Proofs.YtnkkbeafcfjkmaaGreatDoor
open Go.RowKit
set_option linter.unusedVariables false
set_option linter.unusedSimpArgs false
def tabZ : Value := .agg (tabL (.int .u32 0) (.int .i32 0) (.int .u32 0) (List.replicate 256 0)).toArray
theorem tab_new {b : Nat} {w : World} (h : w.heap[b]? = some (.cells (Value.cells tabZ) 122 (0, 0))) : TabC b (.int .u32 0) (.int .i32 0) (.int .u32 0) (tabF 0) w := by
  rw [tabF_zero]; exact TabC.of h
set_option maxRecDepth 100000 in
set_option maxHeartbeats 4000000 in
theorem cNew_c (w : World) : Calls Tryz.prog 54 #[] w fun e w' => ∃ b, w.heap.size ≤ b ∧ e = .returned (.pointer (some ⟨b, 0, none⟩)) ∧ TabC b (.int .u32 0) (.int .i32 0) (.int .u32 0) (tabF 0) w' ∧ Adds w w' := by
  have K : Keeps (fun _ => False) w w := Keeps.refl _ w
  refine Calls.start Tryz.func54 rfl (by kernel_rfl) ?_
  refine WC.seq ?_
  refine WC.region ?_
  refine WL.op (d := 0) (.pointer none) (k := ?_)
  refine WL.nil ?_
  refine WX.seqN ?_
  refine WC.seq ?_
  refine WC.region ?_
  refine WL.op (d := 1) (tabZ) (k := ?_)
  refine WL.new (d := 2) (T := 122) (Value.cells (tabZ)) (k := fun b1 w2 g3 hb4 k5 => ?_)
  have z6 := Nat.le_trans K.size g3
  replace K := K.trans (k5.any _)
  have ht7 := tab_new hb4
  clear hb4
  refine WL.op (d := 0) (.pointer (some ⟨b1, 0, none⟩)) (k := ?_)
  refine WL.nil ?_
  refine WX.seqN ?_
  refine WC.ret ?_
  refine WX.ret (rs := [.tmp 0]) [.pointer (some ⟨b1, 0, none⟩)] (.pointer (some ⟨b1, 0, none⟩)) ⟨(by kernel_rfl), trivial⟩ (k := ?_)
  exact ⟨_, z6, rfl, ht7, K⟩
set_option maxRecDepth 100000 in
set_option maxHeartbeats 4000000 in
theorem cMore_c {b : Nat} {l : List UInt8} {w : World} (hb : TabC b (.int .u32 0) (.int .i32 0) (.int .u32 0) (tabF 0) w) (hm : l.length ≤ 1000000) : Calls Tryz.prog 73 #[.pointer (some ⟨b, 0, none⟩), .int .u32 0, .string ⟨l.toArray⟩] w fun e w' => e = .returned (.int .u32 ((crc l : Nat) : Int)) ∧ Keeps (fun k => k = b) w w' := by
  have K : Keeps (fun k => k = b) w w := Keeps.refl _ w
  refine Calls.start Tryz.func73 rfl (by kernel_rfl) ?_
  refine WC.seq ?_
  refine WC.region ?_
  refine WL.op (d := 6) (.int .u32 0) (k := ?_)
  refine WL.nil ?_
  refine WX.seqN ?_
  refine WC.seq ?_
  refine WC.seq ?_
  refine WC.region ?_
  refine WL.op (d := 9) (.pointer (some ⟨b, 0, none⟩)) (k := ?_)
  refine WL.op (d := 10) (.bool false) (k := ?_)
  refine WL.nil ?_
  refine WX.seqN ?_
  refine WC.condF (k := ?_)
  refine WC.skip ?_
  refine WX.seqN ?_
  refine WC.seq ?_
  refine WC.region ?_
  refine WL.op (d := 11) (.pointer (some ⟨b, 0, none⟩)) (k := ?_)
  refine WL.op (d := 12) (.pointer (some ⟨b, 0, none⟩)) (k := ?_)
  refine WL.op (d := 13) (.pointer (some ⟨b, 0, none⟩)) (k := ?_)
  refine WL.op (d := 14) (.pointer (some ⟨b, 0, none⟩)) (k := ?_)
  refine WL.op (d := 15) (.func (.func 86) #[.pointer (some ⟨b, 0, none⟩)] #[]) (k := ?_)
  refine WL.callG (d := 16) (f := 85) (args := #[.pointer (some ⟨b, 0, none⟩), .func (.func 86) #[.pointer (some ⟨b, 0, none⟩)] #[]]) (onceDo_c hb) (k := fun e_ w1 h_ => ?_)
  obtain ⟨rfl, ht2, k3⟩ := h_
  refine ⟨_, rfl, ?_⟩
  replace K := K.trans' k3 (fun i hi e => e)
  clear hb
  refine WL.nil ?_
  refine WX.seqN ?_
  refine WC.seq ?_
  refine WC.region ?_
  refine WL.op (d := 17) (.int .u32 0) (k := ?_)
  refine WL.op (d := 18) (.int .u32 4294967295) (k := ?_)
  refine WL.op (d := 7) (.int .u32 4294967295) (k := ?_)
  refine WL.nil ?_
  refine WX.seqN ?_
  refine WC.seq ?_
  refine WC.seq ?_
  refine WC.region ?_
  refine WL.op (d := 19) (.string ⟨(l).toArray⟩) (k := ?_)
  refine WL.op (d := 20) (.int .i64 (l.length : Int)) (k := ?_)
  refine WL.op (d := 21) (.int .i64 0) (k := ?_)
  refine WL.nil ?_
  refine WX.seqN ?_
  refine WC.block ?_
  refine WC.loop (ι := Int) (fun (i : Int) => [(0, .pointer (some ⟨b, 0, none⟩)), (1, .int .u32 0), (2, .string ⟨(l).toArray⟩), (6, .int .u32 0), (9, .pointer (some ⟨b, 0, none⟩)), (10, .bool false), (11, .pointer (some ⟨b, 0, none⟩)), (12, .pointer (some ⟨b, 0, none⟩)), (13, .pointer (some ⟨b, 0, none⟩)), (14, .pointer (some ⟨b, 0, none⟩)), (15, .func (.func 86) #[.pointer (some ⟨b, 0, none⟩)] #[]), (17, .int .u32 0), (18, .int .u32 4294967295), (19, .string ⟨(l).toArray⟩), (20, .int .i64 (l.length : Int)), (21, .int .i64 i), (7, .int .u32 ((crcF 4294967295 (List.take i.toNat l) : Nat) : Int))]) (fun (i : Int) (w_ : World) => (Keeps (fun k => k = b) w w_) ∧ (TabC b (.int .u32 1) (.int .i32 0) (.int .u32 0) (tabF 256) w_) ∧ (0 ≤ i) ∧ (i ≤ l.length)) (fun (i : Int) => (l.length - i).toNat) 0 ⟨(by kernel_rfl), (by kernel_rfl), (by kernel_rfl), (by kernel_rfl), (by kernel_rfl), (by kernel_rfl), (by kernel_rfl), (by kernel_rfl), (by kernel_rfl), (by kernel_rfl), (by kernel_rfl), (by kernel_rfl), (by kernel_rfl), (by kernel_rfl), (by kernel_rfl), (by kernel_rfl), (by kernel_rfl), trivial⟩ ⟨K, ht2, Int.le_refl 0, (by omega)⟩ ?_
  rintro i w4 ⟨K, hb5, i0, i1⟩
  have sl_ := crcF_lt (n := 4294967295) (by decide) (List.take i.toNat l)
  refine WC.seq ?_
  refine WC.region ?_
  refine WL.op (d := 22) (.bool (decide (i < (l.length : Int)))) (k := ?_)
  refine WL.nil ?_
  refine WX.seqN ?_
  refine WC.seq ?_
  refine WC.cond (b := decide (i < (l.length : Int))) (ht := fun h6 => ?_) (hf := fun h6 => ?_)
  · have ph6 := of_decide_eq_true h6
    refine WC.skip ?_
    refine WX.seqN ?_
    refine WC.seq ?_
    refine WC.block ?_
    refine WC.seq ?_
    refine WC.region ?_
    refine WL.op (d := 23) (.int .i64 i) (k := ?_)
    refine WL.op (d := 8) (.int .i64 i) (k := ?_)
    refine WL.nil ?_
    refine WX.seqN ?_
    refine WC.quiet (k := ?_)
    refine WQ.op (d := 24) (.pointer (some ⟨b, 0, none⟩)) (k := ?_)
    refine WQ.op (d := 25) (.int .u32 ((crcF 4294967295 (List.take i.toNat l) : Nat) : Int)) (k := ?_)
    have ub7 := u8_lt (UInt8.ofNat ((crcF 4294967295 (List.take i.toNat l)) % 256))
    refine WQ.opE (d := 26) (.int .u8 (IntKind.u8.wrap ((crcF 4294967295 (List.take i.toNat l) : Nat) : Int))) (v := .int .u8 ((UInt8.ofNat ((crcF 4294967295 (List.take i.toNat l)) % 256)).toNat : Int)) (congrArg (Value.int .u8) (byte_nat (crcF 4294967295 (List.take i.toNat l)))) (k := ?_)
    refine WQ.op (d := 27) (.string ⟨(l).toArray⟩) (k := ?_)
    refine WQ.op (d := 28) (.int .i64 i) (k := ?_)
    refine WQ.strAt (T := 9) (l := l) (i := i) (kk := .i64) (d := 29) (by omega) (by first | omega | (simp; omega)) (by kernel_rfl) (by kernel_rfl) (by kernel_rfl) (by kernel_rfl) (by kernel_rfl) ?_
    have ub8 := u8_lt (List.getD l (i).toNat 0)
    refine WQ.bin (d := 30) (v := .int .u8 (bits BinOp.xor IntKind.u8 ((UInt8.ofNat ((crcF 4294967295 (List.take i.toNat l)) % 256)).toNat : Int) ((List.getD l (i).toNat 0).toNat : Int))) (fun _ => bits_run (by decide)) (k := ?_)
    refine WQ.rw (t := 30) (v := .int .u8 ((((UInt8.ofNat ((crcF 4294967295 (List.take i.toNat l)) % 256)).toNat) ^^^ ((List.getD l (i).toNat 0).toNat) : Nat) : Int)) (congrArg (Value.int .u8) (bits_xor8 (a := ((UInt8.ofNat ((crcF 4294967295 (List.take i.toNat l)) % 256)).toNat)) (b := ((List.getD l (i).toNat 0).toNat)) (by omega) (by omega))) (k := ?_)
    have xb9 : ((UInt8.ofNat ((crcF 4294967295 (List.take i.toNat l)) % 256)).toNat) ^^^ ((List.getD l (i).toNat 0).toNat) < 256 := xor_lt (k := 8) (by omega) (by omega)
    refine WQ.op (d := 31) (.pointer (some ⟨b, 0, none⟩)) (k := ?_)
    refine WQ.op (d := 32) (.pointer (some ⟨b, 3, none⟩)) (k := ?_)
    refine WQ.idxA (T := 120) (E := 94) (N := 256) (m := 1) (b := b) (o := 3) (i := ((((UInt8.ofNat ((crcF 4294967295 (List.take i.toNat l)) % 256)).toNat) ^^^ ((List.getD l (i).toNat 0).toNat) : Nat) : Int)) (kk := .u8) (d := 33) (by omega) (by omega) (by kernel_rfl) (by kernel_rfl) (by kernel_rfl) (by kernel_rfl) (by kernel_rfl) (by kernel_rfl) ?_
    have sb10 := stpN_lt (n := ((UInt8.ofNat ((crcF 4294967295 (List.take i.toNat l)) % 256)).toNat) ^^^ ((List.getD l (i).toNat 0).toNat)) (by omega) 8
    refine WQ.load (v := .int .u32 ((List.getD (tabF 256) (((((UInt8.ofNat ((crcF 4294967295 (List.take i.toNat l)) % 256)).toNat) ^^^ ((List.getD l (i).toNat 0).toNat) : Nat) : Int)).toNat 0 : Nat) : Int)) (fun w_ k_ => tab_ld (j := (((((UInt8.ofNat ((crcF 4294967295 (List.take i.toNat l)) % 256)).toNat) ^^^ ((List.getD l (i).toNat 0).toNat) : Nat) : Int)).toNat) (hb5.keeps k_ id) (by omega)) (k := ?_)
    refine WQ.rw (t := 34) (v := .int .u32 ((stpN 8 (((UInt8.ofNat ((crcF 4294967295 (List.take i.toNat l)) % 256)).toNat) ^^^ ((List.getD l (i).toNat 0).toNat)) : Nat) : Int)) (congrArg (Value.int .u32) (tabF_getI (n := ((UInt8.ofNat ((crcF 4294967295 (List.take i.toNat l)) % 256)).toNat) ^^^ ((List.getD l (i).toNat 0).toNat)) (by omega))) (k := ?_)
    refine WQ.op (d := 35) (.int .u32 ((crcF 4294967295 (List.take i.toNat l) : Nat) : Int)) (k := ?_)
    refine WQ.bin (d := 36) (v := .int .u32 (((crcF 4294967295 (List.take i.toNat l) : Nat) : Int) / 256)) (fun _ => shr_run (k := .u32) (yk := .u64) (x := ((crcF 4294967295 (List.take i.toNat l) : Nat) : Int)) (y := 8) (c := 256) (by decide) (by decide) (by decide)) (k := ?_)
    refine WQ.rw (t := 36) (v := .int .u32 (((crcF 4294967295 (List.take i.toNat l)) / 256 : Nat) : Int)) (congrArg (Value.int .u32) (nat_div (crcF 4294967295 (List.take i.toNat l)) 256)) (k := ?_)
    refine WQ.bin (d := 37) (v := .int .u32 (bits BinOp.xor IntKind.u32 ((stpN 8 (((UInt8.ofNat ((crcF 4294967295 (List.take i.toNat l)) % 256)).toNat) ^^^ ((List.getD l (i).toNat 0).toNat)) : Nat) : Int) (((crcF 4294967295 (List.take i.toNat l)) / 256 : Nat) : Int))) (fun _ => bits_run (by decide)) (k := ?_)
    refine WQ.rw (t := 37) (v := .int .u32 (((stpN 8 (((UInt8.ofNat ((crcF 4294967295 (List.take i.toNat l)) % 256)).toNat) ^^^ ((List.getD l (i).toNat 0).toNat))) ^^^ ((crcF 4294967295 (List.take i.toNat l)) / 256) : Nat) : Int)) (congrArg (Value.int .u32) (bits_xor32 (a := (stpN 8 (((UInt8.ofNat ((crcF 4294967295 (List.take i.toNat l)) % 256)).toNat) ^^^ ((List.getD l (i).toNat 0).toNat)))) (b := ((crcF 4294967295 (List.take i.toNat l)) / 256)) (by omega) (by omega))) (k := ?_)
    have xb11 : (stpN 8 (((UInt8.ofNat ((crcF 4294967295 (List.take i.toNat l)) % 256)).toNat) ^^^ ((List.getD l (i).toNat 0).toNat))) ^^^ ((crcF 4294967295 (List.take i.toNat l)) / 256) < 4294967296 := xor_lt (k := 32) (by omega) (by omega)
    refine WQ.op (d := 7) (.int .u32 (((stpN 8 (((UInt8.ofNat ((crcF 4294967295 (List.take i.toNat l)) % 256)).toNat) ^^^ ((List.getD l (i).toNat 0).toNat))) ^^^ ((crcF 4294967295 (List.take i.toNat l)) / 256) : Nat) : Int)) (k := ?_)
    refine WQ.nilX (fun w12 k13 => ?_)
    replace hb5 := hb5.keeps k13 id
    replace K := K.trans (k13.any _)
    refine WX.blockN ?_
    refine WX.seqN ?_
    refine WC.region ?_
    refine WL.opE (d := 38) (.int .i64 (IntKind.i64.wrap (i + 1))) (v := .int .i64 (i + 1)) (congrArg (Value.int .i64) (IntWalk.i64_in _ (by omega))) (k := ?_)
    refine WL.op (d := 21) (.int .i64 (i + 1)) (k := ?_)
    refine WL.nil ?_
    refine WX.rw (t := 7) (v := .int .u32 ((crcF 4294967295 (List.take (i + 1).toNat l) : Nat) : Int)) (congrArg (fun n : Nat => Value.int .u32 (n : Int)) ((upd_byte8 _ _).trans (crcU_succ i0 (by omega)))) (k := ?_)
    refine WX.round (i + 1) (by show (l.length - (i + 1)).toNat < (l.length - i).toNat; omega) ⟨(by kernel_rfl), (by kernel_rfl), (by kernel_rfl), (by kernel_rfl), (by kernel_rfl), (by kernel_rfl), (by kernel_rfl), (by kernel_rfl), (by kernel_rfl), (by kernel_rfl), (by kernel_rfl), (by kernel_rfl), (by kernel_rfl), (by kernel_rfl), (by kernel_rfl), (by kernel_rfl), (by kernel_rfl), trivial⟩ ⟨K, hb5, (by omega), (by omega)⟩
  · have ph6 := of_decide_eq_false h6
    refine WC.exit ?_
    refine WX.seqE ?_
    refine WX.seqE ?_
    refine WX.blockE ?_
    refine WX.seqN ?_
    refine WC.seq ?_
    refine WC.region ?_
    refine WL.op (d := 39) (.int .u32 ((crcF 4294967295 (List.take i.toNat l) : Nat) : Int)) (k := ?_)
    refine WL.opE (d := 40) (.int .u32 (bits BinOp.xor IntKind.u32 4294967295 ((crcF 4294967295 (List.take i.toNat l) : Nat) : Int))) (v := .int .u32 ((4294967295 - (crcF 4294967295 (List.take i.toNat l)) : Nat) : Int)) (congrArg (Value.int .u32) (not32 (by omega))) (k := ?_)
    refine WL.op (d := 6) (.int .u32 ((4294967295 - (crcF 4294967295 (List.take i.toNat l)) : Nat) : Int)) (k := ?_)
    refine WL.nil ?_
    refine WX.seqN ?_
    refine WC.ret ?_
    refine WX.ret (rs := [.tmp 6]) [.int .u32 ((4294967295 - (crcF 4294967295 (List.take i.toNat l)) : Nat) : Int)] (.int .u32 ((4294967295 - (crcF 4294967295 (List.take i.toNat l)) : Nat) : Int)) ⟨(by kernel_rfl), trivial⟩ (k := ?_)
    have e_ : List.take i.toNat l = l := List.take_of_length_le (by omega)
    exact ⟨by rw [e_]; rfl, K⟩
set_option maxRecDepth 100000 in
set_option maxHeartbeats 4000000 in
theorem cSum_c {b : Nat} {l : List UInt8} {w : World} (hb : TabC b (.int .u32 0) (.int .i32 0) (.int .u32 0) (tabF 0) w) (hm : l.length ≤ 1000000) : Calls Tryz.prog 59 #[.pointer (some ⟨b, 0, none⟩), .string ⟨l.toArray⟩] w fun e w' => e = .returned (.int .u32 ((crc l : Nat) : Int)) ∧ Keeps (fun k => k = b) w w' := by
  have K : Keeps (fun k => k = b) w w := Keeps.refl _ w
  refine Calls.start Tryz.func59 rfl (by kernel_rfl) ?_
  refine WC.seq ?_
  refine WC.region ?_
  refine WL.op (d := 4) (.int .u32 0) (k := ?_)
  refine WL.nil ?_
  refine WX.seqN ?_
  refine WC.seq ?_
  refine WC.region ?_
  refine WL.op (d := 5) (.pointer (some ⟨b, 0, none⟩)) (k := ?_)
  refine WL.op (d := 6) (.string ⟨(l).toArray⟩) (k := ?_)
  refine WL.callG (d := 7) (f := 73) (args := #[.pointer (some ⟨b, 0, none⟩), .int .u32 0, .string ⟨(l).toArray⟩]) (cMore_c (l := l) hb (by show List.length l ≤ _; first | omega | (simp; done) | (simp; omega))) (k := fun e_ w1 h_ => ?_)
  obtain ⟨rfl, k2⟩ := h_
  refine ⟨_, rfl, ?_⟩
  replace K := K.trans' k2 (fun i hi e => e)
  clear hb
  have cl3 := crc_lt l
  refine WL.op (d := 4) (.int .u32 ((crc l : Nat) : Int)) (k := ?_)
  refine WL.nil ?_
  refine WX.seqN ?_
  refine WC.ret ?_
  refine WX.ret (rs := [.tmp 4]) [.int .u32 ((crc l : Nat) : Int)] (.int .u32 ((crc l : Nat) : Int)) ⟨(by kernel_rfl), trivial⟩ (k := ?_)
  exact ⟨rfl, K⟩
set_option maxRecDepth 100000 in
set_option maxHeartbeats 4000000 in
theorem cRight_c {b : Nat} {l : List UInt8} {w : World} {x : Nat} (hb : TabC b (.int .u32 0) (.int .i32 0) (.int .u32 0) (tabF 0) w) (hm : l.length ≤ 1000000) : Calls Tryz.prog 55 #[.pointer (some ⟨b, 0, none⟩), .string ⟨l.toArray⟩, .int .u32 (x : Int)] w fun e w' => e = .returned (.bool (((crc l : Nat) : Int) == (x : Int))) ∧ Keeps (fun k => k = b) w w' := by
  have K : Keeps (fun k => k = b) w w := Keeps.refl _ w
  refine Calls.start Tryz.func55 rfl (by kernel_rfl) ?_
  refine WC.seq ?_
  refine WC.region ?_
  refine WL.op (d := 6) (.bool false) (k := ?_)
  refine WL.nil ?_
  refine WX.seqN ?_
  refine WC.seq ?_
  refine WC.region ?_
  refine WL.op (d := 7) (.pointer (some ⟨b, 0, none⟩)) (k := ?_)
  refine WL.op (d := 8) (.bool true) (k := ?_)
  refine WL.op (d := 9) (.bool true) (k := ?_)
  refine WL.op (d := 10) (.pointer (some ⟨b, 0, none⟩)) (k := ?_)
  refine WL.op (d := 11) (.string ⟨(l).toArray⟩) (k := ?_)
  refine WL.callG (d := 12) (f := 59) (args := #[.pointer (some ⟨b, 0, none⟩), .string ⟨(l).toArray⟩]) (cSum_c (l := l) hb (by show List.length l ≤ _; first | omega | (simp; done) | (simp; omega))) (k := fun e_ w1 h_ => ?_)
  obtain ⟨rfl, k2⟩ := h_
  refine ⟨_, rfl, ?_⟩
  replace K := K.trans' k2 (fun i hi e => e)
  clear hb
  have cl3 := crc_lt l
  refine WL.op (d := 13) (.int .u32 (x : Int)) (k := ?_)
  refine WL.op (d := 14) (.bool (((crc l : Nat) : Int) == (x : Int))) (k := ?_)
  refine WL.op (d := 15) (.bool (((crc l : Nat) : Int) == (x : Int))) (k := ?_)
  refine WL.op (d := 6) (.bool (((crc l : Nat) : Int) == (x : Int))) (k := ?_)
  refine WL.nil ?_
  refine WX.seqN ?_
  refine WC.ret ?_
  refine WX.ret (rs := [.tmp 6]) [.bool (((crc l : Nat) : Int) == (x : Int))] (.bool (((crc l : Nat) : Int) == (x : Int))) ⟨(by kernel_rfl), trivial⟩ (k := ?_)
  exact ⟨rfl, K⟩
set_option maxRecDepth 100000 in
set_option maxHeartbeats 4000000 in
theorem trimRB_c {l : List UInt8} (c : UInt8) (hm : l.length ≤ 1000000) (w : World) : Calls Tryz.prog 65 #[.string ⟨l.toArray⟩, .int .u8 (c.toNat : Int)] w fun e w' => ∃ n, n ≤ l.length ∧ e = .returned (.string ⟨(l.take n).toArray⟩) ∧ (∀ x ∈ l.drop n, x = c) ∧ (n = 0 ∨ ¬ l.getD (n - 1) 0 = c) ∧ Adds w w' := by
  have K : Keeps (fun _ => False) w w := Keeps.refl _ w
  refine Calls.start Tryz.func65 rfl (by kernel_rfl) ?_
  refine WC.seq ?_
  refine WC.region ?_
  refine WL.op (d := 4) (.string ⟨#[]⟩) (k := ?_)
  refine WL.nil ?_
  refine WX.seqN ?_
  refine WC.seq ?_
  refine WC.block ?_
  refine WC.rw (t := 0) (v := .string ⟨(List.take l.length l).toArray⟩) (congrArg (fun l : List UInt8 => Value.string ⟨l.toArray⟩) (show l = List.take l.length l by simp)) (k := ?_)
  refine WC.loop (ι := Nat) (fun (n : Nat) => [(1, .int .u8 (c.toNat : Int)), (4, .string ⟨#[]⟩), (0, .string ⟨(List.take n l).toArray⟩)]) (fun (n : Nat) (w_ : World) => (Keeps (fun _ => False) w w_) ∧ (n ≤ l.length) ∧ (∀ x ∈ l.drop n, x = c)) (fun (n : Nat) => n) l.length ⟨(by kernel_rfl), (by kernel_rfl), (by kernel_rfl), trivial⟩ ⟨K, (by omega), (by simp)⟩ ?_
  rintro n w1 ⟨K, i1, ic⟩
  have ll_ : List.length (List.take n l) = n := by first | (simp; done) | (simp; omega)
  refine WC.seq ?_
  refine WC.seq ?_
  refine WC.region ?_
  refine WL.op (d := 5) (.string ⟨(List.take n l).toArray⟩) (k := ?_)
  refine WL.op (d := 6) (.int .i64 ((List.take n l).length : Int)) (k := ?_)
  refine WL.op (d := 7) (.bool (decide (((List.take n l).length : Int) > 0))) (k := ?_)
  refine WL.op (d := 8) (.bool (decide (((List.take n l).length : Int) > 0))) (k := ?_)
  refine bsplit (decide (((List.take n l).length : Int) > 0)) (fun h2 => ?_) (fun h2 => ?_)
  · have ph2 := of_decide_eq_true h2
    refine WL.rw (t := 8) (v := .bool true) (congrArg Value.bool h2) (k := ?_)
    refine WL.op (d := 9) (.string ⟨(List.take n l).toArray⟩) (k := ?_)
    refine WL.op (d := 10) (.string ⟨(List.take n l).toArray⟩) (k := ?_)
    refine WL.op (d := 11) (.int .i64 ((List.take n l).length : Int)) (k := ?_)
    refine WL.opE (d := 12) (.int .i64 (IntKind.i64.wrap (((List.take n l).length : Int) - 1))) (v := .int .i64 (((List.take n l).length : Int) - 1)) (congrArg (Value.int .i64) (IntWalk.i64_in _ (by omega))) (k := ?_)
    refine WL.strAt (T := 9) (l := List.take n l) (i := ((List.take n l).length : Int) - 1) (kk := .i64) (d := 13) (by omega) (by first | omega | (simp; omega)) (by kernel_rfl) (by kernel_rfl) (by kernel_rfl) (by kernel_rfl) (by kernel_rfl) ?_
    have ub3 := u8_lt (List.getD (List.take n l) (((List.take n l).length : Int) - 1).toNat 0)
    refine WL.op (d := 14) (.int .u8 (c.toNat : Int)) (k := ?_)
    refine WL.op (d := 15) (.bool (((List.getD (List.take n l) (((List.take n l).length : Int) - 1).toNat 0).toNat : Int) == (c.toNat : Int))) (k := ?_)
    refine WL.op (d := 16) (.bool (((List.getD (List.take n l) (((List.take n l).length : Int) - 1).toNat 0).toNat : Int) == (c.toNat : Int))) (k := ?_)
    refine WL.nil ?_
    refine WX.seqN ?_
    refine WC.cond (b := ((List.getD (List.take n l) (((List.take n l).length : Int) - 1).toNat 0).toNat : Int) == (c.toNat : Int)) (ht := fun h4 => ?_) (hf := fun h4 => ?_)
    · have ph4 := eq_of_beq h4
      refine WC.skip ?_
      refine WX.seqN ?_
      refine WC.block ?_
      refine WC.region ?_
      refine WL.op (d := 17) (.string ⟨(List.take n l).toArray⟩) (k := ?_)
      refine WL.op (d := 18) (.string ⟨(List.take n l).toArray⟩) (k := ?_)
      refine WL.op (d := 19) (.int .i64 ((List.take n l).length : Int)) (k := ?_)
      refine WL.opE (d := 20) (.int .i64 (IntKind.i64.wrap (((List.take n l).length : Int) - 1))) (v := .int .i64 (((List.take n l).length : Int) - 1)) (congrArg (Value.int .i64) (IntWalk.i64_in _ (by omega))) (k := ?_)
      refine WL.cut (d := 21) (vx := .string ⟨(List.take n l).toArray⟩) (lo' := none) (hi' := (some (.int .i64 (((List.take n l).length : Int) - 1)))) (mx' := none) (v := .string ⟨(List.take ((((List.take n l).length : Int) - 1).toNat) (List.take n l)).toArray⟩) (run_cut (P := Tryz.prog) (w := w1) (lo := none) (hi := (some (.int .i64 (((List.take n l).length : Int) - 1)))) (T := 9) (a := 0) (b := (((List.take n l).length : Int) - 1).toNat) (l := (List.take n l)) (by kernel_rfl) (.inl ⟨rfl, rfl⟩) (.inr ⟨_, _, rfl, by omega⟩) (by first | omega | (simp; omega)) (by first | omega | (simp; omega))) (k := ?_)
      refine WL.op (d := 0) (.string ⟨(List.take ((((List.take n l).length : Int) - 1).toNat) (List.take n l)).toArray⟩) (k := ?_)
      refine WL.nil ?_
      refine WX.blockN ?_
      refine WX.rw (t := 0) (v := .string ⟨(List.take (n - 1) l).toArray⟩) (congrArg (fun l : List UInt8 => Value.string ⟨l.toArray⟩) (take_tr (by omega))) (k := ?_)
      refine WX.round (n - 1) (by show (n - 1) < n; omega) ⟨(by kernel_rfl), (by kernel_rfl), (by kernel_rfl), trivial⟩ ⟨K, (by omega), (trimR_step ic (by omega) i1 (trimR_at i1 (by omega) ph4))⟩
    · have ph4 := ne_of_beq_false h4
      refine WC.exit ?_
      refine WX.seqE ?_
      refine WX.seqE ?_
      refine WX.blockE ?_
      refine WX.seqN ?_
      refine WC.seq ?_
      refine WC.region ?_
      refine WL.op (d := 22) (.string ⟨(List.take n l).toArray⟩) (k := ?_)
      refine WL.op (d := 4) (.string ⟨(List.take n l).toArray⟩) (k := ?_)
      refine WL.nil ?_
      refine WX.seqN ?_
      refine WC.ret ?_
      refine WX.ret (rs := [.tmp 4]) [.string ⟨(List.take n l).toArray⟩] (.string ⟨(List.take n l).toArray⟩) ⟨(by kernel_rfl), trivial⟩ (k := ?_)
      exact ⟨n, i1, rfl, ic, .inr (fun e => ph4 (trimR_ta i1 (by omega) e)), K⟩
  · have ph2 := of_decide_eq_false h2
    refine WL.rw (t := 8) (v := .bool false) (congrArg Value.bool h2) (k := ?_)
    refine WL.skip (d := 9) (k := ?_)
    refine WL.skip (d := 10) (k := ?_)
    refine WL.skip (d := 11) (k := ?_)
    refine WL.skip (d := 12) (k := ?_)
    refine WL.skip (d := 13) (k := ?_)
    refine WL.skip (d := 14) (k := ?_)
    refine WL.skip (d := 15) (k := ?_)
    refine WL.op (d := 16) (.bool false) (k := ?_)
    refine WL.nil ?_
    refine WX.seqN ?_
    refine WC.condF (k := ?_)
    refine WC.exit ?_
    refine WX.seqE ?_
    refine WX.seqE ?_
    refine WX.blockE ?_
    refine WX.seqN ?_
    refine WC.seq ?_
    refine WC.region ?_
    refine WL.op (d := 22) (.string ⟨(List.take n l).toArray⟩) (k := ?_)
    refine WL.op (d := 4) (.string ⟨(List.take n l).toArray⟩) (k := ?_)
    refine WL.nil ?_
    refine WX.seqN ?_
    refine WC.ret ?_
    refine WX.ret (rs := [.tmp 4]) [.string ⟨(List.take n l).toArray⟩] (.string ⟨(List.take n l).toArray⟩) ⟨(by kernel_rfl), trivial⟩ (k := ?_)
    exact ⟨n, i1, rfl, ic, .inl (by omega), K⟩
set_option maxRecDepth 100000 in
set_option maxHeartbeats 4000000 in
theorem trimLB_c {l : List UInt8} (c : UInt8) (hm : l.length ≤ 1000000) (w : World) : Calls Tryz.prog 64 #[.string ⟨l.toArray⟩, .int .u8 (c.toNat : Int)] w fun e w' => ∃ n, n ≤ l.length ∧ e = .returned (.string ⟨(l.drop n).toArray⟩) ∧ (∀ x ∈ l.take n, x = c) ∧ (n = l.length ∨ ¬ (l.drop n).getD 0 0 = c) ∧ Adds w w' := by
  have K : Keeps (fun _ => False) w w := Keeps.refl _ w
  refine Calls.start Tryz.func64 rfl (by kernel_rfl) ?_
  refine WC.seq ?_
  refine WC.region ?_
  refine WL.op (d := 4) (.string ⟨#[]⟩) (k := ?_)
  refine WL.nil ?_
  refine WX.seqN ?_
  refine WC.seq ?_
  refine WC.block ?_
  refine WC.rw (t := 0) (v := .string ⟨(List.drop 0 l).toArray⟩) (congrArg (fun l : List UInt8 => Value.string ⟨l.toArray⟩) (show l = List.drop 0 l by simp)) (k := ?_)
  refine WC.loop (ι := Nat) (fun (n : Nat) => [(1, .int .u8 (c.toNat : Int)), (4, .string ⟨#[]⟩), (0, .string ⟨(List.drop n l).toArray⟩)]) (fun (n : Nat) (w_ : World) => (Keeps (fun _ => False) w w_) ∧ (n ≤ l.length) ∧ (∀ x ∈ l.take n, x = c)) (fun (n : Nat) => (l.length - n)) 0 ⟨(by kernel_rfl), (by kernel_rfl), (by kernel_rfl), trivial⟩ ⟨K, (by omega), (by simp)⟩ ?_
  rintro n w1 ⟨K, i1, ic⟩
  have ll_ : List.length (List.drop n l) = l.length - n := by first | (simp; done) | (simp; omega)
  refine WC.seq ?_
  refine WC.seq ?_
  refine WC.region ?_
  refine WL.op (d := 5) (.string ⟨(List.drop n l).toArray⟩) (k := ?_)
  refine WL.op (d := 6) (.int .i64 ((List.drop n l).length : Int)) (k := ?_)
  refine WL.op (d := 7) (.bool (decide (((List.drop n l).length : Int) > 0))) (k := ?_)
  refine WL.op (d := 8) (.bool (decide (((List.drop n l).length : Int) > 0))) (k := ?_)
  refine bsplit (decide (((List.drop n l).length : Int) > 0)) (fun h2 => ?_) (fun h2 => ?_)
  · have ph2 := of_decide_eq_true h2
    refine WL.rw (t := 8) (v := .bool true) (congrArg Value.bool h2) (k := ?_)
    refine WL.op (d := 9) (.string ⟨(List.drop n l).toArray⟩) (k := ?_)
    refine WL.strAt (T := 9) (l := List.drop n l) (i := 0) (kk := .i64) (d := 10) (by omega) (by first | omega | (simp; omega)) (by kernel_rfl) (by kernel_rfl) (by kernel_rfl) (by kernel_rfl) (by kernel_rfl) ?_
    have ub3 := u8_lt (List.getD (List.drop n l) (0 : Int).toNat 0)
    refine WL.op (d := 11) (.int .u8 (c.toNat : Int)) (k := ?_)
    refine WL.op (d := 12) (.bool (((List.getD (List.drop n l) (0 : Int).toNat 0).toNat : Int) == (c.toNat : Int))) (k := ?_)
    refine WL.op (d := 13) (.bool (((List.getD (List.drop n l) (0 : Int).toNat 0).toNat : Int) == (c.toNat : Int))) (k := ?_)
    refine WL.nil ?_
    refine WX.seqN ?_
    refine WC.cond (b := ((List.getD (List.drop n l) (0 : Int).toNat 0).toNat : Int) == (c.toNat : Int)) (ht := fun h4 => ?_) (hf := fun h4 => ?_)
    · have ph4 := eq_of_beq h4
      refine WC.skip ?_
      refine WX.seqN ?_
      refine WC.block ?_
      refine WC.region ?_
      refine WL.op (d := 14) (.string ⟨(List.drop n l).toArray⟩) (k := ?_)
      refine WL.cut (d := 15) (vx := .string ⟨(List.drop n l).toArray⟩) (lo' := (some (.int .i64 1))) (hi' := none) (mx' := none) (v := .string ⟨(List.drop 1 (List.drop n l)).toArray⟩) ((by have h_ := run_cut (P := Tryz.prog) (w := w1) (lo := (some (.int .i64 1))) (hi := none) (T := 9) (a := 1) (b := (List.drop n l).length) (l := (List.drop n l)) (by kernel_rfl) (.inr ⟨_, _, rfl, by omega⟩) (.inl ⟨rfl, rfl⟩) (by first | omega | (simp; omega)) (by first | omega | (simp; omega)); rw [List.take_length] at h_; exact h_)) (k := ?_)
      refine WL.op (d := 0) (.string ⟨(List.drop 1 (List.drop n l)).toArray⟩) (k := ?_)
      refine WL.nil ?_
      refine WX.blockN ?_
      refine WX.rw (t := 0) (v := .string ⟨(List.drop (n + 1) l).toArray⟩) (congrArg (fun l : List UInt8 => Value.string ⟨l.toArray⟩) (drop_tr n l)) (k := ?_)
      refine WX.round (n + 1) (by show (l.length - (n + 1)) < (l.length - n); omega) ⟨(by kernel_rfl), (by kernel_rfl), (by kernel_rfl), trivial⟩ ⟨K, (by omega), (trimL_step ic (by omega) (trimL_at ph4))⟩
    · have ph4 := ne_of_beq_false h4
      refine WC.exit ?_
      refine WX.seqE ?_
      refine WX.seqE ?_
      refine WX.blockE ?_
      refine WX.seqN ?_
      refine WC.seq ?_
      refine WC.region ?_
      refine WL.op (d := 16) (.string ⟨(List.drop n l).toArray⟩) (k := ?_)
      refine WL.op (d := 4) (.string ⟨(List.drop n l).toArray⟩) (k := ?_)
      refine WL.nil ?_
      refine WX.seqN ?_
      refine WC.ret ?_
      refine WX.ret (rs := [.tmp 4]) [.string ⟨(List.drop n l).toArray⟩] (.string ⟨(List.drop n l).toArray⟩) ⟨(by kernel_rfl), trivial⟩ (k := ?_)
      exact ⟨n, i1, rfl, ic, .inr (fun e => ph4 (trimL_ta e)), K⟩
  · have ph2 := of_decide_eq_false h2
    refine WL.rw (t := 8) (v := .bool false) (congrArg Value.bool h2) (k := ?_)
    refine WL.skip (d := 9) (k := ?_)
    refine WL.skip (d := 10) (k := ?_)
    refine WL.skip (d := 11) (k := ?_)
    refine WL.skip (d := 12) (k := ?_)
    refine WL.op (d := 13) (.bool false) (k := ?_)
    refine WL.nil ?_
    refine WX.seqN ?_
    refine WC.condF (k := ?_)
    refine WC.exit ?_
    refine WX.seqE ?_
    refine WX.seqE ?_
    refine WX.blockE ?_
    refine WX.seqN ?_
    refine WC.seq ?_
    refine WC.region ?_
    refine WL.op (d := 16) (.string ⟨(List.drop n l).toArray⟩) (k := ?_)
    refine WL.op (d := 4) (.string ⟨(List.drop n l).toArray⟩) (k := ?_)
    refine WL.nil ?_
    refine WX.seqN ?_
    refine WC.ret ?_
    refine WX.ret (rs := [.tmp 4]) [.string ⟨(List.drop n l).toArray⟩] (.string ⟨(List.drop n l).toArray⟩) ⟨(by kernel_rfl), trivial⟩ (k := ?_)
    exact ⟨n, i1, rfl, ic, .inl (by omega), K⟩
end Go.Proofs.YtnkkbeafcfjkmaaGreatDoor
namespace Go.Proofs
open Go.Shelf
def Tryz.lays105_ren : Go.Shelf.Ren := ⟨fun | 105 => 60 | 212 => 74 | 99 => 75 | 165 => 76 | 166 => 77 | 170 => 78 | 169 => 72 | 263 => 87 | 264 => 88 | 206 => 89 | 240 => 84 | 241 => 90 | 276 => 94 | 277 => 97 | n => n, fun | 9 => 9 | 3 => 3 | 4 => 4 | 20 => 20 | 0 => 0 | 46 => 108 | 109 => 138 | 5 => 5 | 72 => 133 | 76 => 141 | 51 => 94 | 146 => 150 | 53 => 32 | 148 => 152 | 70 => 131 | 37 => 61 | 75 => 135 | 127 => 148 | 164 => 155 | 80 => 137 | n => n, fun | n => n⟩
theorem Tryz.lays105 : Go.Proofs.Lays.n105 Tryz.prog Tryz.lays105_ren := {
  mixed := by kernel_rfl
  f99 := Tryz.func75.trans (congrArg some (by kernel_rfl))
  f105 := Tryz.func60.trans (congrArg some (by kernel_rfl))
  f165 := Tryz.func76.trans (congrArg some (by kernel_rfl))
  f166 := Tryz.func77.trans (congrArg some (by kernel_rfl))
  f169 := Tryz.func72.trans (congrArg some (by kernel_rfl))
  f170 := Tryz.func78.trans (congrArg some (by kernel_rfl))
  f206 := Tryz.func89.trans (congrArg some (by kernel_rfl))
  f212 := Tryz.func74.trans (congrArg some (by kernel_rfl))
  f240 := Tryz.func84.trans (congrArg some (by kernel_rfl))
  f241 := Tryz.func90.trans (congrArg some (by kernel_rfl))
  f263 := Tryz.func87.trans (congrArg some (by kernel_rfl))
  f264 := Tryz.func88.trans (congrArg some (by kernel_rfl))
  f276 := Tryz.func94.trans (congrArg some (by kernel_rfl))
  f277 := Tryz.func97.trans (congrArg some (by kernel_rfl))
  t0 := Tryz.underlying0
  a0 := Tryz.isAgg0
  z0 := Tryz.sizeOf0
  v0 := Tryz.zeroValue0
  t3 := Tryz.underlying3
  a3 := Tryz.isAgg3
  z3 := Tryz.sizeOf3
  v3 := Tryz.zeroValue3
  t4 := Tryz.underlying4
  a4 := Tryz.isAgg4
  z4 := Tryz.sizeOf4
  v4 := Tryz.zeroValue4
  t5 := Tryz.underlying5
  a5 := Tryz.isAgg5
  z5 := Tryz.sizeOf5
  v5 := Tryz.zeroValue5
  t9 := Tryz.underlying9
  a9 := Tryz.isAgg9
  z9 := Tryz.sizeOf9
  v9 := Tryz.zeroValue9
  t20 := Tryz.underlying20
  a20 := Tryz.isAgg20
  z20 := Tryz.sizeOf20
  v20 := Tryz.zeroValue20
  t37 := Tryz.underlying61
  a37 := Tryz.isAgg61
  z37 := Tryz.sizeOf61
  v37 := Tryz.zeroValue61
  t46 := Tryz.underlying108
  a46 := Tryz.isAgg108
  z46 := Tryz.sizeOf108
  v46 := Tryz.zeroValue108
  t51 := Tryz.underlying94
  a51 := Tryz.isAgg94
  z51 := Tryz.sizeOf94
  v51 := Tryz.zeroValue94
  t53 := Tryz.underlying32
  a53 := Tryz.isAgg32
  z53 := Tryz.sizeOf32
  v53 := Tryz.zeroValue32
  t70 := Tryz.underlying131
  a70 := Tryz.isAgg131
  z70 := Tryz.sizeOf131
  v70 := Tryz.zeroValue131
  t72 := Tryz.underlying133
  a72 := Tryz.isAgg133
  z72 := Tryz.sizeOf133
  v72 := Tryz.zeroValue133
  t75 := Tryz.underlying135
  a75 := Tryz.isAgg135
  z75 := Tryz.sizeOf135
  v75 := Tryz.zeroValue135
  t76 := Tryz.underlying141
  a76 := Tryz.isAgg141
  z76 := Tryz.sizeOf141
  v76 := Tryz.zeroValue141
  t109 := Tryz.underlying138
  a109 := Tryz.isAgg138
  z109 := Tryz.sizeOf138
  v109 := Tryz.zeroValue138
  t127 := Tryz.underlying148
  a127 := Tryz.isAgg148
  z127 := Tryz.sizeOf148
  v127 := Tryz.zeroValue148
  t146 := Tryz.underlying150
  a146 := Tryz.isAgg150
  z146 := Tryz.sizeOf150
  v146 := Tryz.zeroValue150
  t148 := Tryz.underlying152
  a148 := Tryz.isAgg152
  z148 := Tryz.sizeOf152
  v148 := Tryz.zeroValue152
  t164 := Tryz.underlying155
  a164 := Tryz.isAgg155
  z164 := Tryz.sizeOf155
  v164 := Tryz.zeroValue155 }
theorem Tryz.Builder_Extra_105 : Builder.Extra Tryz.prog Tryz.lays105_ren := {
  sizeBuilder := by kernel_rfl
  liesBuilder := by kernel_rfl
  t5 := Tryz.underlying5
  a5 := Tryz.isAgg5
  z5 := Tryz.sizeOf5
  v5 := Tryz.zeroValue5
  infoByte := by kernel_rfl
  cellsByte := by kernel_rfl
  sizeByte := by kernel_rfl
  neB5 := by decide }
open Go.RowKit Go.Lib in
theorem Tryz.strings_Repeat (s : ByteArray) (c : Nat) (w : World) (hc : c ≤ 9223372036854775807) (hlen : s.size * c ≤ 140737488355328) :
    Calls Tryz.prog 60 #[.string s, .int .i64 c] w fun e w' => e = .returned (.string ⟨(Lib.repeatL s.data.toList c).toArray⟩) ∧ Below w.heap.size w w' := Any.strings_Repeat Tryz.lays105 Tryz.Builder_Extra_105 s c w hc hlen
end Go.Proofs
namespace Go.Proofs.YtnkkbeafcfjkmaaGreatDoor
open Go.RowKit
set_option linter.unusedVariables false
set_option linter.unusedSimpArgs false
section
variable {P : Program} {n : Md} {fr : List (Nat × Value)} {C : World → Prop}
theorem exec_strAt {T d : Nat} {l : List UInt8} {kk : IntKind} {i : Int} {x y : Operand} {ty : TypeId} {ps : String} {af : Array Edge} {g : Option (Nat × Bool)} (h0 : 0 ≤ i) (h1 : i < l.length) (hT : P.underlying T = some .string := by kernel_rfl) (hx : ev fr x = some (.string ⟨l.toArray⟩) := by kernel_rfl) (hy : ev fr y = some (.int kk i) := by kernel_rfl) :
    ∀ a, FrOk n fr a → ∀ w, C w → (execOp a.eval ⟨some d, .index T x y, ty, ps, af, g⟩).run P w = .ok (.value (.int .u8 ((l.getD i.toNat 0).toNat : Int))) w := fun a ha w hw => by
  simp only [execOp, ha.eval hx, ha.eval hy, Sem.run_bind, run_strAt hT h0 h1, Result.andThen_ok, Sem.run_pure]
end
abbrev u64C (n : Nat) : List Value := [.int .u64 (n : Int)]
theorem ekU64 : EK u64C 1 32 := EK.of (z := .int .u64 0) (bt := 8) (fun _ => rfl) (fun _ => rfl) (by decide) (by kernel_rfl) rfl (by decide)
theorem shr_be {n : Nat} {j : Int} (h0 : 0 ≤ j) (h1 : j ≤ 7) : (n : Int) / 2 ^ (8 * (7 - j)).toNat = ((n / 256 ^ (8 - 1 - j.toNat) : Nat) : Int) := by
  rw [show (8 * (7 - j)).toNat = 8 * (8 - 1 - j.toNat) by omega, Int.natCast_ediv]
  generalize 8 - 1 - j.toNat = k
  have : (2 : Int) ^ (8 * k) = ((256 ^ k : Nat) : Int) := by
    rw [show (256 : Nat) = 2 ^ 8 from rfl, ← Nat.pow_mul]; push_cast; rfl
  rw [this]
theorem bWriteByte_s (b : Nat) (r : Option Nat) (bs : List UInt8) (c : UInt8) (w : World) (h : BuR 133 0 b r bs w) (hl : bs.length ≤ 900000000) :
    Calls Tryz.prog 71 #[.pointer (some ⟨b, 0, none⟩), .int .u8 (c.toNat : Int)] w fun e w' => e = .returned .nilIface ∧ WrPost 133 b r (bs ++ [c]) w w' := sbWriteByte_r _ b r buT_Builder bs c _ rfl w h (by omega)
theorem bString_s (b : Nat) (r : Option Nat) (bs : List UInt8) (w : World) (h : BuR 133 0 b r bs w) (hl : bs.length ≤ 900000000) :
    Calls Tryz.prog 72 #[.pointer (some ⟨b, 0, none⟩)] w fun e w' => e = .returned (.string ⟨bs.toArray⟩) ∧ WrPost 133 b r bs w w' := by
  refine (sbString_r _ 0 b r bs w h (by omega)).mono ?_
  rintro e w' ⟨h1, h2, h3⟩
  exact ⟨h1, r, h2, .inl rfl, h3.mono fun k _ e => .inr e⟩
theorem trim_iff {l : List UInt8} {n m : Nat} (h1 : n ≤ l.length) (hz : ∀ x ∈ l.drop n, x = 0) (ho : n = 0 ∨ ¬ l.getD (n - 1) 0 = 0) (h2 : m ≤ (l.take n).length) (hy : ∀ x ∈ (l.take n).take m, x = 0) : (l.take n).drop m = [] ↔ ∀ x ∈ l, x = 0 := by
  constructor
  · intro e x hx
    have hm : (l.take n).length ≤ m := List.drop_eq_nil_iff.1 e
    rw [← List.take_append_drop n l] at hx
    rcases List.mem_append.1 hx with hx | hx
    · exact hy x (by rw [List.take_of_length_le hm]; exact hx)
    · exact hz x hx
  · intro h
    have : n = 0 := by
      rcases ho with h0 | h0
      · exact h0
      · by_cases hn : n = 0
        · exact hn
        · refine absurd (h _ ?_) h0
          rw [List.getD_eq_getElem?_getD, List.getElem?_eq_getElem (by omega)]
          exact List.getElem_mem _
    subst this; simp
theorem Below.adds {w w' : World} (h : Below w.heap.size w w') : Adds w w' := ⟨h.os, h.tape, h.output, h.size, fun k hk _ => h.block k hk⟩
theorem repeat0_c {x : Int} (h0 : 0 ≤ x) (h1 : x ≤ 1000) (w : World) : Calls Tryz.prog 60 #[.string ⟨#[0]⟩, .int .i64 x] w fun e w' => e = .returned (.string ⟨(List.replicate x.toNat (0 : UInt8)).toArray⟩) ∧ Adds w w' := by
  have h := Tryz.strings_Repeat ⟨#[0]⟩ x.toNat w (by omega) (by show 1 * _ ≤ _; omega)
  rw [show ((x.toNat : Nat) : Int) = x by omega] at h
  refine h.mono ?_
  rintro e w' ⟨h1, h2⟩
  refine ⟨?_, Below.adds h2⟩
  rw [h1]
  congr 4
  show Lib.repeatL [0] x.toNat = _
  generalize x.toNat = n
  induction n with
  | zero => rfl
  | succ n ih => rw [List.replicate_succ, ← ih]; rfl
theorem getD_at (s : List UInt8) (a : Nat) {i : Int} (h0 : 0 ≤ i) : List.getD s ((a : Int) + i).toNat 0 = List.getD (List.drop a s) i.toNat 0 := by
  rw [show ((a : Int) + i).toNat = a + i.toNat by omega]
  simp [List.getD, List.getElem?_drop]
theorem beAt_succ {s : List UInt8} {a : Nat} {i : Int} (h0 : 0 ≤ i) (h1 : a + i < s.length) : beval (List.take i.toNat (List.drop a s)) * 256 + (List.getD s ((a : Int) + i).toNat 0).toNat = beval (List.take (i + 1).toNat (List.drop a s)) := by
  rw [getD_at s a h0]; exact beU_succ h0 (by rw [List.length_drop]; omega)
def tgE (s : List UInt8) : Nat := if s.length = 64 then epS s else 0
def tgN (s : List UInt8) : Nat := if s.length = 64 then nuS s else 0
theorem tgE_lt (s : List UInt8) : tgE s < 18446744073709551616 := by unfold tgE; split; exact epS_lt ‹_›; decide
theorem tgN_lt (s : List UInt8) : tgN s < 18446744073709551616 := by unfold tgN; split; exact nuS_lt ‹_›; decide
theorem tgE_no {s : List UInt8} (h : ¬ s.length = 64) : tgE s = 0 := if_neg h
theorem tgN_no {s : List UInt8} (h : ¬ s.length = 64) : tgN s = 0 := if_neg h
theorem tgE_ok {s : List UInt8} (h : s.length = 64) : tgE s = beval (List.take 8 (List.drop 48 s)) := if_pos h
theorem tgN_ok {s : List UInt8} (h : s.length = 64) : tgN s = beval (List.take 8 (List.drop 56 s)) := by rw [tgN, if_pos h, nuS, List.take_of_length_le (l := List.drop 56 s) (by simp [h])]
theorem tgN_ok' {s : List UInt8} (h : s.length = 64) : tgN s = beval (List.drop 56 s) := if_pos h
def mk0 (p : List UInt8) (e n : Nat) : List UInt8 := UInt8.ofNat p.length :: (be 4 (crc (p ++ tagsS e n)) ++ p)
theorem mk0_len (p : List UInt8) (e n : Nat) : (mk0 p e n).length = 5 + p.length := by simp [mk0, be_len]; omega
theorem mk0_end {p : List UInt8} {e n : Nat} {j : Nat} (h : j = 43 - p.length) : mk0 p e n ++ List.replicate j 0 ++ tagsS e n = makeS p e n := by subst h; simp [mk0, makeS]
def rdP (s : List UInt8) : List UInt8 := if isCell s then payS s else []
def rdE (s : List UInt8) : Nat := if isCell s then epS s else 0
def rdN (s : List UInt8) : Nat := if isCell s then nuS s else 0
theorem rdP_len (s : List UInt8) : (rdP s).length ≤ 43 := by
  unfold rdP; split
  · next h => have := h.2.1; simp only [payS, List.length_take]; omega
  · simp
theorem rdE_lt (s : List UInt8) : rdE s < 18446744073709551616 := by unfold rdE; split; exact epS_lt (‹isCell s›).1; decide
theorem rdN_lt (s : List UInt8) : rdN s < 18446744073709551616 := by unfold rdN; split; exact nuS_lt (‹isCell s›).1; decide
end Go.Proofs.YtnkkbeafcfjkmaaGreatDoor
