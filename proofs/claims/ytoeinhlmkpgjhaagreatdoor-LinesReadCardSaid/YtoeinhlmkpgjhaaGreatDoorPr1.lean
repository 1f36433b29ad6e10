/- Mem, Sx, Sx2, Bu, Pure3, OctW, Mem2, Bu2, App, Wr, Wr2, OctR, OctR2, OctR3, Ref3, Ref3b, Ref3c, Ref3d, Sx3, Sx4, Sx5, Sx6, Sx7, Sx8, Sx9, Sx10, Sx11, Ln0, Shl, Ln2, Sg, Ln3, Ln1, Ln1b, Ln4, Op1, Op2, Op3, Op4, Op5, Op6, Op7, Op8, Op9, Op10, Sy0, Sy0b, St0: one behind the other. -/
import Derived.Below
import Derived.Lib.FrozenHead2
import Derived.Lib.OthersKept
import Derived.WalkKit
import Derived.Deep.QuietTactic
import Derived.Lib.Strings
import Derived.Tactics
import Derived.Deep.LoopGhost
import Derived.Deep.Quiet
import Derived.StillTail
import Derived.KernelRfl
import Derived.IntWalk
import Derived.TacticsIn
import Derived.OrdersIn
import Derived.Sort.LoopGhostIn
import Derived.Test.YtoeinhlmkpgjhaaGreatDoorProg
import Derived.Lib.Builder
import Derived.Lib.AppendStr
import Derived.Lib.UnsafeStr
import Derived.Lib.MakeNoZero
import Derived.Lib.Walk
import Derived.Lib.Slices
import Derived.Laws.Externs
import Derived.Laws.IdiomCopy
import Derived.Laws.BitsLemmas
import Derived.WalkSpells
import Derived.BigCall
import Derived.Lib.BitFns
import Derived.Shelf.Strconv.Itoa0
import Derived.StillTailTactics
import Derived.BigQuiet
import Derived.Lib.Hide
import Derived.Laws.BitsAllLaws
import Derived.Lib.ConvBytes
import Derived.Laws.BytesString
import Derived.Laws.BytesArg
import Derived.Deep.RegionHeld3
import Derived.Maps.AppendAt
import Derived.Laws.OwnMore
import Derived.Scope
import Derived.RangeFuncLeaves
import Derived.RangeFuncRecord
import Derived.LoopNIn
import Derived.Laws.RangeAny
import Derived.RecoverIn
import Derived.Shelf.Strconv.Itoa4
import Derived.Shelf.Strings.Split
import Derived.Shelf.Strings.Cut
import Derived.Shelf.Strings.OnBuilder
import Derived.Shelf.Strings.FieldsFuncGrows
import Derived.Lib.MapLaws
import Derived.Lib.SplitLaws
import Derived.Lib.ItoaLen
import Derived.Handy
import Derived.Laws.StructEq
import Derived.Deep.RegionWith
import Derived.TacticsInMore
import Derived.Test.YtoeinhlmkpgjhaaGreatDoorRows
import Derived.Shelf.Vars
import Derived.Handed
import Derived.LaidSub
import Derived.MakeChecks
import Derived.Lib.LaidTab
import Derived.Test.YtoeinhlmkpgjhaaGreatDoorArgs
namespace Go.Proofs.YtoeinhlmkpgjhaaGreatDoor
open Go.RowKit
structure Keeps (S : Nat → Prop) (w w' : World) : Prop where
  os : w'.os = w.os
  tape : w'.tape = w.tape
  output : w'.output = w.output
  size : w.heap.size ≤ w'.heap.size
  block : ∀ k, k < w.heap.size → ¬ S k → w'.heap[k]? = w.heap[k]?
theorem Keeps.refl (S : Nat → Prop) (w : World) : Keeps S w w := ⟨rfl, rfl, rfl, Nat.le_refl _, fun _ _ _ => rfl⟩
theorem Keeps.trans' {S S' : Nat → Prop} {a b c : World} (h : Keeps S a b) (k : Keeps S' b c) (hs : ∀ i, i < a.heap.size → S' i → S i) : Keeps S a c :=
  ⟨k.os.trans h.os, k.tape.trans h.tape, k.output.trans h.output, Nat.le_trans h.size k.size, fun i hi hn => (k.block i (Nat.lt_of_lt_of_le hi h.size) (fun x => hn (hs i hi x))).trans (h.block i hi hn)⟩
theorem Keeps.trans {S : Nat → Prop} {a b c : World} (h : Keeps S a b) (k : Keeps S b c) : Keeps S a c := h.trans' k (fun _ _ x => x)
theorem Keeps.mono {S S' : Nat → Prop} {a b : World} (h : Keeps S a b) (hs : ∀ i, i < a.heap.size → S i → S' i) : Keeps S' a b :=
  ⟨h.os, h.tape, h.output, h.size, fun i hi hn => h.block i hi (fun x => hn (hs i hi x))⟩
theorem Keeps.drew {S : Nat → Prop} {a w : World} (h : Keeps S a w) : Keeps S a w.drew := ⟨h.os, h.tape, h.output, h.size, h.block⟩
theorem Keeps.drewN {S : Nat → Prop} {a w : World} (h : Keeps S a w) (n : Nat) : Keeps S a (w.drewN n) := ⟨h.os, h.tape, h.output, h.size, h.block⟩
theorem Keeps.alloc {S : Nat → Prop} {a w : World} (h : Keeps S a w) (o : Obj) : Keeps S a (w.alloc o) :=
  ⟨h.os, h.tape, h.output, by have := h.size; simp; omega, fun i hi hn => by
    rw [Below.heap_alloc _ _ _ (by have := h.size; omega)]; exact h.block i hi hn⟩
theorem Keeps.setCell {S : Nat → Prop} {a w : World} (h : Keeps S a w) (p : Addr) (u : Value) (hp : p.block < a.heap.size → S p.block) : Keeps S a (w.setCell p u) :=
  ⟨h.os, h.tape, h.output, by have := h.size; simp [World.setCell]; omega, fun i hi hn => by
    have hne : i ≠ p.block := by intro e; subst e; exact hn (hp hi)
    rw [Below.heap_setCell _ _ _ _ hne]; exact h.block i hi hn⟩
theorem Keeps.of_below {B : Nat} {a b : World} (h : Below B a b) : Keeps (fun k => B ≤ k) a b :=
  ⟨h.os, h.tape, h.output, h.size, fun k _ hk => h.block k (by omega)⟩
theorem Keeps.below {S : Nat → Prop} {a b : World} (h : Keeps S a b) {B : Nat} (hB : B ≤ a.heap.size) (hs : ∀ i, i < B → ¬ S i) : Below B a b :=
  ⟨h.os, h.tape, h.output, h.size, fun k hk => h.block k (by omega) (hs k hk)⟩
theorem Keeps.heap {S : Nat → Prop} {a b : World} (h : Keeps S a b) {k : Nat} {o : Obj} (ho : a.heap[k]? = some o) (hn : ¬ S k) : b.heap[k]? = some o := by
  rw [h.block k (Array.getElem?_eq_some_iff.1 ho).1 hn]; exact ho
abbrev Adds (w w' : World) : Prop := Keeps (fun _ => False) w w'
theorem Adds.below {w w' : World} (h : Adds w w') : Below w.heap.size w w' := Keeps.below h (Nat.le_refl _) (fun _ _ x => x)
theorem Adds.of_below {w w' : World} (h : Below w.heap.size w w') : Adds w w' := (Keeps.of_below h).mono (fun _ hi hx => by omega)
theorem Adds.any {w w' : World} (h : Adds w w') (S : Nat → Prop) : Keeps S w w' := h.mono (fun _ _ x => x.elim)
theorem lt_of_heap {w : World} {k : Nat} {o : Obj} (h : w.heap[k]? = some o) : k < w.heap.size := (Array.getElem?_eq_some_iff.1 h).1
theorem heap_alloc_new' (w : World) (x : Obj) : (w.alloc x).heap[w.heap.size]? = some x := by
  show (w.heap.push x)[w.heap.size]? = some x
  simp
theorem heap_set_same {w : World} {b : Nat} {cs : Array Value} {T : TypeId} {fr : Nat × Nat} (h : w.heap[b]? = some (.cells cs T fr)) (j : Nat) (v : Value) :
    (w.setCell ⟨b, j, none⟩ v).heap[b]? = some (.cells (cs.setIfInBounds j v) T fr) := by
  simp [World.setCell, Array.getElem?_modify, h]
theorem cell_at {w : World} {b : Nat} {cs : Array Value} {T : TypeId} {fr : Nat × Nat} (hb : w.heap[b]? = some (.cells cs T fr)) (j : Nat) {v : Value} (hv : cs[j]? = some v) : w.cell? ⟨b, j, none⟩ = some v := by
  simp [World.cell?, hb, hv]
theorem free_at {w : World} {b : Nat} {cs : Array Value} {T : TypeId} (hb : w.heap[b]? = some (.cells cs T (0, 0))) (j : Nat) : w.frozen? ⟨b, j, none⟩ = false := by
  simp [World.frozen?, hb]
def BuAt (T B b : Nat) (bs : List UInt8) (w : World) : Prop :=
  ∃ p v, (p = Value.pointer none ∨ p = Value.pointer (some ⟨b, 0, none⟩)) ∧ w.heap[b]? = some (.cells #[p, v] T (0, 0)) ∧
    w.ownsRowF B 5 1 v bs.length (Lib.byteCells bs) ∧ v.ownBlock ≠ some b
theorem BuAt.lt {T B b : Nat} {bs : List UInt8} {w : World} (h : BuAt T B b bs w) : b < w.heap.size := by
  obtain ⟨_, _, _, h, _⟩ := h; exact lt_of_heap h
theorem BuAt.new (T B : Nat) (w : World) : BuAt T B w.heap.size [] (w.alloc (.cells #[.pointer none, .slice none 0 0] T)) :=
  ⟨_, _, .inl rfl, heap_alloc_new' w _, World.ownsRowF_nil _ _ _ _, by simp [Value.ownBlock]⟩
theorem BuAt.keeps {T B b : Nat} {bs : List UInt8} {w w' : World} {S : Nat → Prop} (h : BuAt T B b bs w) (k : Keeps S w w') (h1 : ¬ S b) (h2 : ∀ i, B ≤ i → i < w.heap.size → ¬ S i) : BuAt T B b bs w' := by
  obtain ⟨p, v, hp, hb, hown, hne⟩ := h
  refine ⟨p, v, hp, k.heap hb h1, ⟨hown.1, ?_⟩, hne⟩
  rcases hown.2 with hn | ⟨g, cap, cur, fz, rfl, hbg, hg, rest⟩
  · exact .inl hn
  · exact .inr ⟨g, cap, cur, fz, rfl, hbg, k.heap hg (h2 g hbg (lt_of_heap hg)), rest⟩
theorem BuAt.adds {T B b : Nat} {bs : List UInt8} {w w' : World} (h : BuAt T B b bs w) (k : Adds w w') : BuAt T B b bs w' := h.keeps k id (fun _ _ _ x => x)
theorem BuAt.alloc {T B b : Nat} {bs : List UInt8} {w : World} (h : BuAt T B b bs w) (o : Obj) : BuAt T B b bs (w.alloc o) := h.adds ((Keeps.refl _ w).alloc o)
theorem BuAt.drew {T B b : Nat} {bs : List UInt8} {w : World} (h : BuAt T B b bs w) : BuAt T B b bs w.drew := h
theorem ret_bool {a b : Bool} (h : a = b) : Ending.returned (.bool a) = .returned (.bool b) := by rw [h]
theorem str_cut (l : List UInt8) (a b : Nat) : ((⟨l.toArray⟩ : ByteArray).extract a b) = ⟨((l.take b).drop a).toArray⟩ := by
  apply ByteArray.ext
  apply Array.ext'
  rw [Lib.extract_data, List.drop_take]
theorem str_app (a b : List UInt8) : (⟨a.toArray⟩ : ByteArray) ++ ⟨b.toArray⟩ = ⟨(a ++ b).toArray⟩ := by
  rw [ByteArray.mk_append_mk]
end Go.Proofs.YtoeinhlmkpgjhaaGreatDoor
namespace Go.Proofs.YtoeinhlmkpgjhaaGreatDoor
open Go.RowKit
set_option linter.unusedVariables false
set_option linter.unusedSimpArgs false
abbrev Fr := List (Nat × Value)
def look : Fr → Nat → Option Value
  | [], _ => none
  | p :: l, t => bif Nat.beq p.1 t then some p.2 else look l t
def ev (fr : Fr) : Operand → Option Value
  | .tmp t => look fr t
  | .const v => some v
  | .global g => some (.pointer (some ⟨g, 0, none⟩))
  | .func f => some (.func (.func f) #[] #[])
def evf (fr : Fr) (x : Operand) : Value := (ev fr x).getD undef
def evs (fr : Fr) : List Operand → Option (List Value)
  | [] => some []
  | x :: l => match ev fr x, evs fr l with
    | some v, some vs => some (v :: vs)
    | _, _ => none
structure Md where
  n : Nat
  R : Option Nat
  D : List Deferred
abbrev fz (R : Option Nat) : Fence := { Fence.wide with round := R }
structure FrOk (n : Md) (fr : Fr) (a : Act) : Prop where
  defers : a.defers = n.D
  size : a.tmps.size = n.n
  val : ∀ t v, look fr t = some v → a.tmps[t]? = some v
theorem FrOk.put {n : Md} {d : Nat} {fr : Fr} {a : Act} (h : FrOk n fr a) (hd : Nat.blt d n.n = true) (v : Value) : FrOk n ((d, v) :: fr) (a.put (some d) v) := by
  have hd' : d < n.n := by simpa [Nat.blt_eq] using hd
  refine ⟨h.defers, by simpa [Act.put] using h.size, fun t u hu => ?_⟩
  simp only [look] at hu
  by_cases e : d = t
  · subst e
    simp only [Nat.beq_eq_true_eq, BEq.rfl, Nat.beq_refl, cond_true, Option.some.injEq] at hu
    subst hu
    simp [Act.put, h.size, hd']
  · have : Nat.beq d t = false := by
      cases hb : Nat.beq d t with
      | false => rfl
      | true => exact absurd (Nat.eq_of_beq_eq_true hb) e
    rw [this] at hu
    simp only [cond_false] at hu
    have := h.val t u hu
    simp [Act.put, Array.getElem?_setIfInBounds, e, this]
theorem FrOk.none {n : Md} {fr : Fr} {a : Act} (h : FrOk n fr a) (v : Value) : FrOk n fr (a.put none v) := h
theorem FrOk.eval {n : Md} {fr : Fr} {a : Act} (h : FrOk n fr a) {x : Operand} {v : Value} (he : ev fr x = some v) : a.eval x = v := by
  cases x with
  | tmp t => have := h.val t v he; simp [Act.eval, Array.getD_eq_getD_getElem?, this]
  | const u => simpa [ev, Act.eval] using he
  | global g => simpa [ev, Act.eval] using he
  | func f => simpa [ev, Act.eval] using he
theorem FrOk.evs {n : Md} {fr : Fr} {a : Act} (h : FrOk n fr a) : ∀ {xs : List Operand} {vs : List Value}, evs fr xs = some vs → xs.map a.eval = vs
  | [], vs, he => by simpa [Go.Proofs.YtoeinhlmkpgjhaaGreatDoor.evs] using he
  | x :: l, vs, he => by
    simp only [Go.Proofs.YtoeinhlmkpgjhaaGreatDoor.evs] at he
    cases h1 : ev fr x with
    | none => simp [h1] at he
    | some v =>
      cases h2 : Go.Proofs.YtoeinhlmkpgjhaaGreatDoor.evs fr l with
      | none => simp [h1, h2] at he
      | some us =>
        simp only [h1, h2, Option.some.injEq] at he
        subst he
        simp [h.eval h1, h.evs h2]
def Sub : Fr → Fr → Prop
  | [], _ => True
  | p :: l, fr => look fr p.1 = some p.2 ∧ Sub l fr
theorem Sub.look {F fr : Fr} (h : Sub F fr) {t : Nat} {v : Value} (hl : look F t = some v) : look fr t = some v := by
  induction F with
  | nil => simp [Go.Proofs.YtoeinhlmkpgjhaaGreatDoor.look] at hl
  | cons p l ih =>
    simp only [Go.Proofs.YtoeinhlmkpgjhaaGreatDoor.look] at hl
    cases hb : Nat.beq p.1 t with
    | true =>
      rw [hb] at hl
      simp only [cond_true, Option.some.injEq] at hl
      rw [← Nat.eq_of_beq_eq_true hb, ← hl]
      exact h.1
    | false => rw [hb] at hl; exact ih h.2 hl
theorem FrOk.sub {n : Md} {F fr : Fr} {a : Act} (h : FrOk n fr a) (hs : Sub F fr) : FrOk n F a := ⟨h.defers, h.size, fun t v hl => h.val t v (hs.look hl)⟩
def notSel : Op → Bool
  | .select _ _ => false
  | .defer _ => false
  | _ => true
def okOps (fr : Fr) (o : Oper) : Bool := notSel o.op && o.op.operands.toList.all fun x => (ev fr x).isSome
theorem FrOk.exec {n : Md} {fr : Fr} {a : Act} (h : FrOk n fr a) {o : Oper} (ho : okOps fr o = true) : execOp a.eval o = execOp (evf fr) o := by
  simp only [okOps, Bool.and_eq_true, List.all_eq_true] at ho
  refine execOp_congr o (fun cs b e => by rw [e] at ho; simp [notSel] at ho) (fun x hx => ?_)
  have := ho.2 x (by simpa using hx)
  obtain ⟨v, hv⟩ := Option.isSome_iff_exists.1 this
  rw [h.eval hv, evf, hv]
  rfl
def want (ops : Array Oper) (fr : Fr) (o : Oper) : Option Bool :=
  match o.guard with
  | none => some true
  | some (j, b) => match (ops[j]?).bind (·.dst) with
    | some t => match look fr t with
      | some (.bool c) => some (c == b)
      | some (.tuple _) => some false
      | _ => none
    | none => some false
theorem FrOk.want {n : Md} {fr : Fr} {a : Act} (h : FrOk n fr a) {ops : Array Oper} {o : Oper} {c : Bool} (hw : want ops fr o = some c) : Region.wanted o (yielded ops a.tmps) = c := by
  unfold Go.Proofs.YtoeinhlmkpgjhaaGreatDoor.want at hw
  unfold Region.wanted
  cases hg : o.guard with
  | none => simp only [hg, Option.some.injEq] at hw; simp [← hw]
  | some p =>
    obtain ⟨j, b⟩ := p
    simp only [hg] at hw
    simp only [yielded]
    cases ht : (ops[j]?).bind (·.dst) with
    | none => simp only [ht, Option.some.injEq] at hw; subst hw; simp
    | some t =>
      simp only [ht] at hw
      cases hl : look fr t with
      | none => simp [hl] at hw
      | some v =>
        have hv := h.val t v hl
        cases v <;> simp only [hl, reduceCtorEq, Option.some.injEq] at hw
        all_goals (subst hw; simp [hv])
theorem str_eql (a b : List UInt8) : Value.bool (ByteArray.toList ⟨a.toArray⟩ == ByteArray.toList ⟨b.toArray⟩) = .bool (decide (a = b)) := by
  rw [ByteArray.toList_eq, ByteArray.toList_eq]
  congr 1
  rw [Bool.eq_iff_iff]; simp
theorem cat_run {P : Program} {w : World} {T : TypeId} {a b : List UInt8} (h : a.length + b.length ≤ 9223372036854775807) : (binOp .add T (.string ⟨a.toArray⟩) (.string ⟨b.toArray⟩)).run P w = .ok (.string ⟨(a ++ b).toArray⟩) w := by
  have h1 : ¬ ((((⟨a.toArray⟩ : ByteArray).size + (⟨b.toArray⟩ : ByteArray).size : Nat) : Int) > IntKind.i64.max) := by
    have e1 : (⟨a.toArray⟩ : ByteArray).size = a.length := rfl
    have e2 : (⟨b.toArray⟩ : ByteArray).size = b.length := rfl
    rw [e1, e2]
    have : IntKind.i64.max = 9223372036854775807 := by decide
    omega
  simp only [binOp, Op.stringOp, if_neg h1, Sem.run_pure, str_app]
theorem bsplit {X : Prop} (c : Bool) (h1 : c = true → X) (h2 : c = false → X) : X := match c, h1, h2 with | true, h1, _ => h1 rfl | false, _, h2 => h2 rfl
section
variable {P : Program} {ops : Array Oper} {n : Md} {Q : Exit → Act → World → Prop} {rest : List Oper} {fr : Fr} {w : World}
theorem calls_fz {R0 : Option Nat} {f : FuncId} {args : Array Value} {R : Ending → World → Prop} {m : Nat} (h : Calls P f args w R) : CallsIn (fz R0) m P f args w R := (callsIn_wide (n := m)).2 h
theorem rows_fz {R0 : Option Nat} {row : String} {args : Array Value} {R : Value → World → Prop} {m : Nat} (h : Rows P row args w R) : RowsIn (fz R0) m P row args w R := fun c cs _ =>
  let ⟨v, w', r, s⟩ := h c cs
  ⟨v, w', r, stepsIn_wide.2 s⟩
theorem okOps_nd {o : Oper} (h : okOps fr o = true) : notSel o.op = true := by
  simp only [okOps, Bool.and_eq_true] at h; exact h.1
theorem opLift {R0 : Option Nat} {o : Oper} {a : Act} {K : Act → World → Prop} (nd : notSel o.op = true) (h : o.wp P a w K Q) : o.wpIn (fz R0) 0 P a w K Q := by
  unfold Oper.wp at h
  refine ⟨fun _ _ => trivial, ?_⟩
  rw [Oper.semAt_eq _ _ _ (fun c e => by rw [e] at nd; simp [notSel] at nd)]
  generalize (execOp a.eval o).run P w = r at *
  cases r with
  | ok x w' =>
    cases x <;> simp only [Oper.upon, Oper.uponIn] at h ⊢
    case enter f args => exact ⟨fun h => by simp [Fence.wide] at h, calls_fz (Calls.mono h fun e w'' he => by cases e <;> exact he)⟩
    case row r args => exact ⟨fun h => by simp [Fence.wide] at h, rows_fz h⟩
    all_goals exact h
  | halt x w' => cases x <;> simp only [Oper.upon, Oper.uponIn] at h ⊢ <;> exact h
def WL (P : Program) (ops : Array Oper) (n : Md) (Q : Exit → Act → World → Prop) (rest : List Oper) (fr : Fr) (w : World) : Prop := ∀ a, FrOk n fr a → wpListIn (fz n.R) 0 P ops Q rest a w
def WC (P : Program) (n : Md) (Q : Exit → Act → World → Prop) (c : Code) (fr : Fr) (w : World) : Prop := ∀ a, FrOk n fr a → c.wpIn (fz n.R) 0 P Q a w
def WX (n : Md) (Q : Exit → Act → World → Prop) (e : Exit) (fr : Fr) (w : World) : Prop := ∀ a, FrOk n fr a → Q e a w
theorem WL.nil (h : WX n Q .normal fr w) : WL P ops n Q [] fr w := fun a ha => wpListIn_nil (h a ha)
theorem WL.wanted {o : Oper} (hw : want ops fr o = some true) (h : ∀ a, FrOk n fr a → ∀ K : Act → World → Prop, (∀ a w, wpListIn (fz n.R) 0 P ops Q rest a w → K a w) → o.wp P a w K Q) (nd : notSel o.op = true := by first | rfl | exact okOps_nd (by assumption)) : WL P ops n Q (o :: rest) fr w := by
  intro a ha
  refine wpListIn_step fun K hK => ?_
  rw [ha.want hw, if_pos rfl]
  exact opLift nd (h a ha K hK)
theorem WL.skip {o : Oper} {d : Nat} (hw : want ops fr o = some false := by kernel_rfl) (hd : o.dst = some d := by kernel_rfl) (hn : Nat.blt d n.n = true := by kernel_rfl) (k : WL P ops n Q rest ((d, undef) :: fr) w) : WL P ops n Q (o :: rest) fr w := by
  intro a ha
  refine wpListIn_step fun K hK => ?_
  rw [ha.want hw, if_neg (by decide), hd]
  exact ⟨fun _ _ => trivial, hK _ _ (k _ (ha.put hn _))⟩
theorem WL.opW {o : Oper} {w' : World} {d : Nat} (v : Value) (hw : want ops fr o = some true) (hs : okOps fr o = true) (hr : (execOp (evf fr) o).run P w = .ok (.value v) w') (hd : o.dst = some d) (hn : Nat.blt d n.n = true)
    (k : WL P ops n Q rest ((d, v) :: fr) w') : WL P ops n Q (o :: rest) fr w :=
  WL.wanted hw fun a ha K hK => by
    unfold Oper.wp
    rw [ha.exec hs, hr, Oper.upon_value, hd]
    exact hK _ _ (k _ (ha.put hn _))
theorem WL.op {o : Oper} {d : Nat} (v : Value) (hw : want ops fr o = some true := by kernel_rfl) (hs : okOps fr o = true := by kernel_rfl) (hr : (execOp (evf fr) o).run P w = .ok (.value v) w := by kernel_rfl) (hd : o.dst = some d := by kernel_rfl) (hn : Nat.blt d n.n = true := by kernel_rfl)
    (k : WL P ops n Q rest ((d, v) :: fr) w) : WL P ops n Q (o :: rest) fr w := WL.opW v hw hs hr hd hn k
theorem WL.opE {o : Oper} {d : Nat} (v0 : Value) {v : Value} (he : v0 = v := by kernel_rfl) (hw : want ops fr o = some true := by kernel_rfl) (hs : okOps fr o = true := by kernel_rfl) (hr : (execOp (evf fr) o).run P w = .ok (.value v0) w := by kernel_rfl) (hd : o.dst = some d := by kernel_rfl) (hn : Nat.blt d n.n = true := by kernel_rfl)
    (k : WL P ops n Q rest ((d, v) :: fr) w) : WL P ops n Q (o :: rest) fr w := WL.op v hw hs (he ▸ hr) hd hn k
theorem WL.new {o : Oper} {d : Nat} {T : TypeId} (cs : Array Value) (hw : want ops fr o = some true := by kernel_rfl) (hs : okOps fr o = true := by kernel_rfl) (hd : o.dst = some d := by kernel_rfl) (hn : Nat.blt d n.n = true := by kernel_rfl)
    (hr : (execOp (evf fr) o).run P w = .ok (.value (.pointer (some ⟨w.heap.size, 0, none⟩))) (w.alloc (.cells cs T)) := by kernel_rfl)
    (k : ∀ (b : Nat) (w' : World), w.heap.size ≤ b → w'.heap[b]? = some (.cells cs T (0, 0)) → Adds w w' → WL P ops n Q rest ((d, .pointer (some ⟨b, 0, none⟩)) :: fr) w') : WL P ops n Q (o :: rest) fr w :=
  WL.opW _ hw hs hr hd hn (k _ _ (Nat.le_refl _) (heap_alloc_new' w _) ((Keeps.refl _ w).alloc _))
theorem WL.bin {B : BinOp} {T T2 : TypeId} {x y : Operand} {d : Nat} {vx vy v : Value} {ty : TypeId} {ps : String} {af : Array Edge} {g : Option (Nat × Bool)} (hb : (binOp B T vx vy).run P w = .ok v w)
    (hg : (eqGuard B T x y vx vy).run P w = .ok () w := by kernel_rfl) (hw : want ops fr ⟨some d, .binOp B T x y T2, ty, ps, af, g⟩ = some true := by kernel_rfl) (hx : ev fr x = some vx := by kernel_rfl) (hy : ev fr y = some vy := by kernel_rfl) (hn : Nat.blt d n.n = true := by kernel_rfl)
    (k : WL P ops n Q rest ((d, v) :: fr) w) : WL P ops n Q (⟨some d, .binOp B T x y T2, ty, ps, af, g⟩ :: rest) fr w :=
  WL.wanted hw fun a ha K hK => by
    unfold Oper.wp
    simp only [execOp, ha.eval hx, ha.eval hy, Sem.run_bind, hg, Sem.run_pure, Result.andThen_ok, hb, Oper.upon_value]
    exact hK _ _ (k _ (ha.put hn _))
def scT (P : Program) (T : TypeId) : Bool :=
  match P.underlying T with
  | some (.struct _) => false
  | some (.array _ _) => false
  | some _ => true
  | none => false
def agT (P : Program) (T : TypeId) : Option Nat :=
  match P.underlying T with
  | some (.struct _) => (P.info? T).map (·.size)
  | some (.array _ _) => (P.info? T).map (·.size)
  | _ => none
theorem run_isAgg_sc {T : TypeId} (h : scT P T = true) : (isAgg T).run P w = .ok false w := by
  unfold scT at h
  cases hu : P.underlying T with
  | none => simp [hu] at h
  | some d => cases d <;> simp [hu] at h <;> simp [isAgg, run_underlying hu] <;> (try rfl)
theorem run_isAgg_ag {T : TypeId} {m : Nat} (h : agT P T = some m) : (isAgg T).run P w = .ok true w ∧ (sizeOf T).run P w = .ok m w := by
  unfold agT at h
  cases hu : P.underlying T with
  | none => simp [hu] at h
  | some d =>
    cases d <;> simp only [hu, reduceCtorEq] at h
    all_goals
      obtain ⟨i, hi, hs⟩ := Option.map_eq_some_iff.1 h
      exact ⟨by simp [isAgg, run_underlying hu], by simp [sizeOf, typeInfo, hi, hs]⟩
theorem ld1 {T E : TypeId} {b i : Nat} {cs : Array Value} {fz : Nat × Nat} {v : Value} (hb : w.heap[b]? = some (.cells cs E fz)) (hT : scT P T = true := by kernel_rfl) (hv : cs[i]? = some v := by kernel_rfl) : (loadVar T ⟨b, i, none⟩).run P w = .ok v w := by
  have hc : w.cell? ⟨b, i, none⟩ = some v := cell_at hb i hv
  unfold loadVar
  simp only [Sem.run_bind, run_isAgg_sc hT, Result.andThen_ok]
  simp [go_sem, hc]
theorem run_loadCellsFrom {b i : Nat} {cs : Array Value} {E : TypeId} {fz : Nat × Nat} (hb : w.heap[b]? = some (.cells cs E fz)) : ∀ (m j : Nat) (acc : Array Value), i + j + m ≤ cs.size →
    (loadCellsFrom ⟨b, i, none⟩ j m acc).run P w = .ok (acc ++ ((cs.toList.drop (i + j)).take m).toArray) w
  | 0, j, acc, _ => by simp [loadCellsFrom]
  | m + 1, j, acc, h => by
    have hlt : i + j < cs.size := by omega
    have ha : (⟨b, i, none⟩ : Addr).add j = ⟨b, i + j, none⟩ := by unfold Addr.add; split <;> simp_all
    have hc : w.cell? ⟨b, i + j, none⟩ = some cs[i + j] := cell_at hb (i + j) (by simp [hlt])
    have hd : (cs.toList.drop (i + j)) = cs[i + j] :: cs.toList.drop (i + j + 1) := by
      rw [List.drop_eq_getElem_cons (by simpa using hlt)]; simp
    have ih := run_loadCellsFrom (i := i) hb m (j + 1) (acc.push cs[i + j]) (by omega)
    have h1 : (load ⟨b, i + j, none⟩).run P w = .ok cs[i + j] w := by simp [load, Sem.run, hc]
    simp only [loadCellsFrom, ha, Sem.run_bind, h1, Result.andThen_ok, ih, hd, List.take_succ_cons]
    congr 1
    rw [show i + (j + 1) = i + j + 1 by omega]
    apply Array.ext'
    simp
theorem ldN {T E : TypeId} {b i m : Nat} {cs : Array Value} {fz : Nat × Nat} {l : List Value} (hb : w.heap[b]? = some (.cells cs E fz)) (hT : agT P T = some m := by kernel_rfl) (hk : Nat.ble (i + m) cs.size = true := by kernel_rfl) (hl : (cs.toList.drop i).take m = l := by kernel_rfl) : (loadVar T ⟨b, i, none⟩).run P w = .ok (.agg l.toArray) w := by
  obtain ⟨h1, h2⟩ := run_isAgg_ag (w := w) hT
  have h3 := run_loadCellsFrom (P := P) hb m 0 #[] (i := i) (by have := Nat.le_of_ble_eq_true hk; omega)
  unfold loadVar
  simp only [Sem.run_bind, h1, Result.andThen_ok, if_true, h2, loadCells, h3]
  simp [hl]
theorem WL.load {T : TypeId} {x : Operand} {d : Nat} {p : Addr} {v : Value} {ty : TypeId} {ps : String} {af : Array Edge} {g : Option (Nat × Bool)} (hl : (loadVar T p).run P w = .ok v w)
    (hw : want ops fr ⟨some d, .load T x, ty, ps, af, g⟩ = some true := by kernel_rfl) (he : ev fr x = some (.pointer (some p)) := by kernel_rfl) (hn : Nat.blt d n.n = true := by kernel_rfl) (k : WL P ops n Q rest ((d, v) :: fr) w) : WL P ops n Q (⟨some d, .load T x, ty, ps, af, g⟩ :: rest) fr w :=
  WL.wanted hw fun a ha K hK => by
    unfold Oper.wp
    simp only [execOp, ha.eval he, Instr.loadAt, Instr.sureAddr, Sem.run_bind, Sem.run_pure, Result.andThen_ok, hl, Oper.upon_value]
    exact hK _ _ (k _ (ha.put hn _))
def oneC : Value → Bool
  | .agg _ => false
  | .tuple _ => false
  | _ => true
def repl (cs : Array Value) (i : Nat) (l : List Value) : Array Value := (cs.toList.take i ++ (l ++ cs.toList.drop (i + l.length))).toArray
theorem Keeps.one {w w' : World} {b : Nat} (os : w'.os = w.os) (tape : w'.tape = w.tape) (out : w'.output = w.output) (size : w.heap.size ≤ w'.heap.size) (h : ∀ k, k < w.heap.size → k ≠ b → w'.heap[k]? = w.heap[k]?) : Keeps (fun k => k = b) w w' := ⟨os, tape, out, size, h⟩
theorem run_store1 {b i : Nat} {cs : Array Value} {E : TypeId} {v : Value} (hb : w.heap[b]? = some (.cells cs E (0, 0))) (hi : i < cs.size) (hv : oneC v = true) : (store ⟨b, i, none⟩ v).run P w = .ok () (w.setCell ⟨b, i, none⟩ v) := by
  have hc : w.cell? ⟨b, i, none⟩ = some cs[i] := cell_at hb i (by simp [hi])
  have hf := free_at hb i
  cases v <;> simp [oneC] at hv <;> simp [store, Sem.run, hc, hf]
theorem run_storeCells {b i : Nat} {E : TypeId} : ∀ (l : List Value) (j : Nat) (w : World) (cs : Array Value), w.heap[b]? = some (.cells cs E (0, 0)) → i + j + l.length ≤ cs.size → l.all oneC = true →
    ∃ w', (storeCells ⟨b, i, none⟩ l j).run P w = .ok () w' ∧ w'.heap[b]? = some (.cells (repl cs (i + j) l) E (0, 0)) ∧ Keeps (fun k => k = b) w w'
  | [], j, w, cs, hb, _, _ => ⟨w, by simp [storeCells], by simpa [repl] using hb, Keeps.refl _ _⟩
  | v :: l, j, w, cs, hb, hl, hv => by
    simp only [List.all_cons, Bool.and_eq_true] at hv
    simp only [List.length_cons] at hl
    have ha : (⟨b, i, none⟩ : Addr).add j = ⟨b, i + j, none⟩ := by unfold Addr.add; split <;> simp_all
    have h1 := run_store1 (P := P) (i := i + j) hb (by omega) hv.1
    have hb' := heap_set_same hb (i + j) v
    obtain ⟨w', hr, hb2, hk⟩ := run_storeCells (i := i) l (j + 1) (w.setCell ⟨b, i + j, none⟩ v) _ hb' (by simp; omega) hv.2
    refine ⟨w', ?_, ?_, ((Keeps.refl (fun k => k = b) w).setCell _ _ (fun _ => rfl)).trans hk⟩
    · simp only [storeCells, ha, Sem.run_bind, h1, Result.andThen_ok, hr]
    · rw [hb2]
      congr 2
      unfold repl
      apply Array.ext'
      have hlt : i + j < cs.toList.length := by simp; omega
      simp only [Array.toList_setIfInBounds, List.length_cons]
      rw [show i + (j + 1) = i + j + 1 by omega, List.take_set, List.drop_set, if_pos (by omega), List.take_succ_eq_append_getElem hlt, List.set_append]
      simp only [List.length_take]
      rw [if_neg (by omega)]
      have hm : min (i + j) cs.size = i + j := Nat.min_eq_left (by simpa using Nat.le_of_lt hlt)
      simp [hm, Nat.add_assoc, Nat.add_comm 1, Nat.add_left_comm]
theorem WL.store {T E : TypeId} {x y : Operand} {b i : Nat} {cs cs' : Array Value} {v : Value} {ty : TypeId} {ps : String} {af : Array Edge} {g : Option (Nat × Bool)}
    (hb : w.heap[b]? = some (.cells cs E (0, 0)))
    (hw : want ops fr ⟨none, .store T x y, ty, ps, af, g⟩ = some true := by kernel_rfl) (he : ev fr x = some (.pointer (some ⟨b, i, none⟩)) := by kernel_rfl) (hv : ev fr y = some v := by kernel_rfl)
    (hT : (P.info? T).map (·.size) = some v.cells.size := by kernel_rfl) (hlen : Nat.ble (i + v.cells.size) cs.size = true := by kernel_rfl) (ho : v.cells.toList.all oneC = true := by kernel_rfl) (hcs : repl cs i v.cells.toList = cs' := by kernel_rfl)
    (k : ∀ w' : World, w'.heap[b]? = some (.cells cs' E (0, 0)) → Keeps (fun k => k = b) w w' → WL P ops n Q rest fr w') : WL P ops n Q (⟨none, .store T x y, ty, ps, af, g⟩ :: rest) fr w :=
  WL.wanted hw fun a ha K hK => by
    obtain ⟨w', hr, hb', hk⟩ := run_storeCells (P := P) (i := i) v.cells.toList 0 w cs hb (by simpa using Nat.le_of_ble_eq_true hlen) ho
    obtain ⟨j, hj, hjs⟩ := Option.map_eq_some_iff.1 hT
    unfold Oper.wp
    have hs : (storeVar T ⟨b, i, none⟩ v).run P w = .ok () w' := by
      unfold storeVar
      simp [sizeOf, typeInfo, hj, hjs, hr]
    simp only [execOp, ha.eval he, ha.eval hv, Instr.storeAt, Instr.sureAddr, Sem.run_bind, Sem.run_pure, Result.andThen_ok, hs, Oper.upon_skip]
    exact hK _ _ (k w' (hcs ▸ (by simpa using hb')) hk _ ha)
def CF (P : Program) (f : FuncId) : Prop := ∀ (args : Array Value) (w : World), (callFunc f args).run P w = .ok (.enter f args) w
theorem WL.call {f : FuncId} {xs : Array Operand} {ats : Array TypeId} {args : Array Value} {R : Ending → World → Prop} {d : Nat} {ty : TypeId} {ps : String} {af : Array Edge} {g : Option (Nat × Bool)}
    (hf : CF P f) (hc : Calls P f args w R) (hw : want ops fr ⟨some d, .call ⟨.value (.func f), xs, ats⟩, ty, ps, af, g⟩ = some true) (he : evs fr xs.toList = some args.toList) (hn : Nat.blt d n.n = true)
    (k : ∀ e w', R e w' → ∃ v, e = .returned v ∧ WL P ops n Q rest ((d, v) :: fr) w') : WL P ops n Q (⟨some d, .call ⟨.value (.func f), xs, ats⟩, ty, ps, af, g⟩ :: rest) fr w :=
  WL.wanted hw fun a ha K hK => by
    have hargs : xs.map a.eval = args := by
      apply Array.ext'
      simpa using ha.evs he
    unfold Oper.wp
    simp only [execOp, resolve, Act.eval, Deferred.ofValue, hargs, Sem.run_bind, Sem.run_pure, Result.andThen_ok, invoke, Array.empty_append, Array.append_empty, hf args w, Oper.upon_enter]
    refine hc.mono fun e w' hR => ?_
    obtain ⟨v, rfl, h⟩ := k e w' hR
    exact hK _ _ (h _ (ha.put hn _))
theorem WL.callG {f : FuncId} {o : Oper} {args : Array Value} {R : Ending → World → Prop} {d : Nat} (hc : Calls P f args w R) (hw : want ops fr o = some true := by kernel_rfl) (hs : okOps fr o = true := by kernel_rfl) (hr : (execOp (evf fr) o).run P w = .ok (.enter f args) w := by kernel_rfl) (hd : o.dst = some d := by kernel_rfl) (hn : Nat.blt d n.n = true := by kernel_rfl)
    (k : ∀ e w', R e w' → ∃ v, e = .returned v ∧ WL P ops n Q rest ((d, v) :: fr) w') : WL P ops n Q (o :: rest) fr w :=
  WL.wanted hw fun a ha K hK => by
    unfold Oper.wp
    rw [ha.exec hs, hr, Oper.upon_enter, hd]
    refine hc.mono fun e w' hR => ?_
    obtain ⟨v, rfl, h⟩ := k e w' hR
    exact hK _ _ (h _ (ha.put hn _))
theorem FrOk.rw {t : Nat} {u v : Value} (he : look fr t = some u) (hu : u = v) {a : Act} (ha : FrOk n fr a) : FrOk n ((t, v) :: fr) a :=
  ⟨ha.defers, ha.size, fun s x hx => by
    simp only [look] at hx
    cases hb : Nat.beq t s with
    | true =>
      rw [hb] at hx
      simp only [cond_true, Option.some.injEq] at hx
      rw [← Nat.eq_of_beq_eq_true hb, ← hx, ← hu]
      exact ha.val t u he
    | false => rw [hb] at hx; exact ha.val s x hx⟩
theorem WL.rw {t : Nat} {u v : Value} (hu : u = v) (he : look fr t = some u := by kernel_rfl) (k : WL P ops n Q rest ((t, v) :: fr) w) : WL P ops n Q rest fr w := fun a ha => k a (ha.rw he hu)
end
section
variable {P : Program} {n : Md} {Q : Exit → Act → World → Prop} {fr : Fr} {w : World}
theorem WC.region {id : Nat} {l : List Oper} (h : WL P l.toArray n Q l fr w) : WC P n Q (.region id l.toArray false) fr w := fun a ha => wpIn_region_lit (h a ha)
theorem WC.seq {x y : Code} (h : WC P n (Exit.then (y.wpIn (fz n.R) 0 P Q) Q) x fr w) : WC P n Q (.seq x y) fr w := fun a ha => wpIn_seq (h a ha)
theorem WC.skip (h : WX n Q .normal fr w) : WC P n Q .skip fr w := fun a ha => wpIn_skip (h a ha)
theorem WC.label {l : Nat} (h : WX n Q .normal fr w) : WC P n Q (.label l) fr w := fun a ha => wpIn_label (h a ha)
theorem WC.ret (h : WX n Q .ret fr w) : WC P n Q .ret fr w := fun a ha => wpIn_ret (h a ha)
theorem WC.exit {id : Nat} (h : WX n Q (.exit id) fr w) : WC P n Q (.exit id) fr w := fun a ha => wpIn_exit (h a ha)
theorem WC.block {id : Nat} {c : Code} (h : WC P n (Exit.inBlock id Q) c fr w) : WC P n Q (.block id c) fr w := fun a ha => wpIn_block (h a ha)
theorem WC.cond {x : Operand} {c1 c2 : Code} {b : Bool} (he : ev fr x = some (.bool b) := by kernel_rfl) (ht : b = true → WC P n Q c1 fr w) (hf : b = false → WC P n Q c2 fr w := by kernel_rfl) : WC P n Q (.cond x c1 c2) fr w :=
  fun a ha => wpIn_cond_split (ha.eval he) (fun h => ht h a ha) (fun h => hf h a ha)
theorem WC.condT {x : Operand} {c1 c2 : Code} (he : ev fr x = some (.bool true) := by kernel_rfl) (k : WC P n Q c1 fr w) : WC P n Q (.cond x c1 c2) fr w :=
  fun a ha => wpIn_cond_true (ha.eval he) (k a ha)
theorem WC.condF {x : Operand} {c1 c2 : Code} (he : ev fr x = some (.bool false) := by kernel_rfl) (k : WC P n Q c2 fr w) : WC P n Q (.cond x c1 c2) fr w :=
  fun a ha => wpIn_cond_false (ha.eval he) (k a ha)
theorem WC.sub {F : Fr} {c : Code} (hs : Sub F fr) (h : WC P n Q c F w) : WC P n Q c fr w := fun a ha => h a (ha.sub hs)
theorem WC.rw {t : Nat} {u v : Value} {c : Code} (hu : u = v) (he : look fr t = some u := by kernel_rfl) (k : WC P n Q c ((t, v) :: fr) w) : WC P n Q c fr w := fun a ha => k a (ha.rw he hu)
theorem WX.seqN {y : Code} (h : WC P n Q y fr w) : WX n (Exit.then (y.wpIn (fz n.R) 0 P Q) Q) .normal fr w := h
theorem WX.seqR {K : Act → World → Prop} (h : WX n Q .ret fr w) : WX n (Exit.then K Q) .ret fr w := h
theorem WX.seqE {K : Act → World → Prop} {id : Nat} (h : WX n Q (.exit id) fr w) : WX n (Exit.then K Q) (.exit id) fr w := h
theorem WX.blockN {id : Nat} (h : WX n Q .normal fr w) : WX n (Exit.inBlock id Q) .normal fr w := h
theorem WX.blockR {id : Nat} (h : WX n Q .ret fr w) : WX n (Exit.inBlock id Q) .ret fr w := h
theorem WX.blockE {id : Nat} (h : WX n Q .normal fr w) : WX n (Exit.inBlock id Q) (.exit id) fr w := fun a ha => by
  simp only [Exit.inBlock, ↓reduceIte]; exact h a ha
theorem WX.blockO {id i : Nat} (hi : Nat.beq i id = false) (h : WX n Q (.exit i) fr w) : WX n (Exit.inBlock id Q) (.exit i) fr w := fun a ha => by
  simp only [Exit.inBlock, Nat.ne_of_beq_eq_false hi, ↓reduceIte]; exact h a ha
theorem WX.sub {F : Fr} {e : Exit} (hs : Sub F fr) (h : WX n Q e F w) : WX n Q e fr w := fun a ha => h a (ha.sub hs)
def Round {ι : Type} (n : Md) (F : ι → Fr) (I : ι → World → Prop) (m : ι → Nat) (x : ι) : Act → World → Prop := fun a w => ∃ x', m x' < m x ∧ FrOk n (F x') a ∧ I x' w
theorem WC.loop {ι : Type} {c : Code} (F : ι → Fr) (I : ι → World → Prop) (m : ι → Nat) (x0 : ι) (hs : Sub (F x0) fr) (h0 : I x0 w)
    (round : ∀ x w, I x w → WC P n (Exit.then (Round n F I m x) Q) c (F x) w) : WC P n Q (.loop c) fr w := fun a ha =>
  wpIn_loop_ghost (fun k a w => ∃ x, m x = k ∧ FrOk n (F x) a ∧ I x w) (m x0) ⟨x0, rfl, ha.sub hs, h0⟩ (fun k a w ⟨x, hk, hf, hi⟩ =>
    wpIn_mono (round x w hi a hf) (fun e a' w' q => by
      cases e with
      | normal => obtain ⟨x', h1, h2, h3⟩ := q; exact ⟨m x', by omega, x', rfl, h2, h3⟩
      | _ => exact q))
theorem WX.round {ι : Type} {F : ι → Fr} {I : ι → World → Prop} {m : ι → Nat} {x : ι} (x' : ι) (hm : m x' < m x) (hs : Sub (F x') fr) (hi : I x' w) : WX n (Exit.then (Round n F I m x) Q) .normal fr w :=
  fun a ha => ⟨x', hm, ha.sub hs, hi⟩
def RV (P : Program) (fr : Fr) (w : World) : List ResultVar → List Value → Prop
  | [], [] => True
  | .tmp t :: rs, v :: vs => look fr t = some v ∧ RV P fr w rs vs
  | .cell a T :: rs, v :: vs => (∃ p, look fr a = some (.pointer (some p)) ∧ (loadVar T p).run P w = .ok v w) ∧ RV P fr w rs vs
  | _, _ => False
theorem RV.run {a : Act} (ha : FrOk n fr a) : ∀ {rs : List ResultVar} {vs : List Value}, RV P fr w rs vs →
    (rs.mapM (fun r => match r with | .tmp t => pure (a.tmps.getD t undef) | .cell x t => do loadVar t (← asAddr (a.tmps.getD x undef)) : ResultVar → Sem Value)).run P w = .ok vs w
  | [], [], _ => by simp
  | .tmp t :: rs, v :: vs, h => by
    have h1 := ha.val t v h.1
    have h2 := RV.run ha h.2
    simp only [List.mapM_cons, Sem.run_bind, Sem.run_pure, Result.andThen_ok, h2]
    simp [Array.getD_eq_getD_getElem?, h1]
  | .cell x T :: rs, v :: vs, h => by
    obtain ⟨⟨p, hp, hl⟩, h3⟩ := h
    have h1 := ha.val x _ hp
    have h2 := RV.run ha h3
    have h4 : (asAddr (a.tmps.getD x undef)).run P w = .ok p w := by simp [Array.getD_eq_getD_getElem?, h1, asAddr]
    simp only [List.mapM_cons, Sem.run_bind, h4, Result.andThen_ok, hl, h2, Sem.run_pure]
def tup : List Value → Value
  | [u] => u
  | vs => .tuple vs.toArray
theorem RV.results {a : Act} {fn : Func} (ha : FrOk n fr a) {rs : List ResultVar} {vs : List Value} (hf : fn.results = rs.toArray) (h : RV P fr w rs vs) (v : Value) (hv : tup vs = v) :
    (results fn a.tmps).run P w = .ok v w := by
  have h1 := RV.run (P := P) ha h
  unfold Go.results
  rw [hf]
  generalize (fun r => match r with | .tmp t => pure (a.tmps.getD t undef) | .cell x t => do loadVar t (← asAddr (a.tmps.getD x undef)) : ResultVar → Sem Value) = f at h1 ⊢
  rw [List.mapM_toArray]
  subst hv
  match vs with
  | [] => simp [h1, tup]
  | [u] => simp [h1, tup]
  | u :: u' :: us => simp [h1, tup]
theorem WX.ret {fn : Func} {R : Ending → World → Prop} {rs : List ResultVar} (vs : List Value) (v : Value) (h : RV P fr w rs vs) (hf : fn.results = rs.toArray := by rfl) (hv : tup vs = v := by rfl) (k : R (.returned v) w) (hD : n.D = [] := by rfl) : WX n (bodyPost P fn R) .ret fr w :=
  fun a ha => ⟨ha.defers.trans hD, v, RV.results ha hf h v hv, k⟩
theorem WX.end {fn : Func} {R : Ending → World → Prop} {rs : List ResultVar} (vs : List Value) (v : Value) (h : RV P fr w rs vs) (hf : fn.results = rs.toArray := by rfl) (hv : tup vs = v := by rfl) (k : R (.returned v) w) (hD : n.D = [] := by rfl) : WX n (bodyPost P fn R) .normal fr w :=
  fun a ha => ⟨ha.defers.trans hD, v, RV.results ha hf h v hv, k⟩
def fr0 : Nat → List Value → Fr
  | _, [] => []
  | i, v :: l => (i, v) :: fr0 (i + 1) l
theorem look_fr0 : ∀ (l : List Value) (i t : Nat) (v : Value), look (fr0 i l) t = some v → i ≤ t ∧ l[t - i]? = some v
  | [], _, _, _, h => by simp [fr0, look] at h
  | u :: l, i, t, v, h => by
    simp only [fr0, look] at h
    cases hb : Nat.beq i t with
    | true =>
      have e := Nat.eq_of_beq_eq_true hb
      subst e
      rw [hb] at h
      simpa using h
    | false =>
      rw [hb] at h
      have hne := Nat.ne_of_beq_eq_false hb
      obtain ⟨h1, h2⟩ := look_fr0 l (i + 1) t v h
      refine ⟨by omega, ?_⟩
      rw [show t - i = (t - (i + 1)) + 1 by omega]
      simpa using h2
theorem Calls.start {f : FuncId} {fn : Func} {c : Code} {args : Array Value} {R : Ending → World → Prop} (hf : P.funcs[f]? = some fn) (hb : fn.body = some c) (hn : Nat.ble args.size fn.ntmps = true)
    (h : WC P ⟨fn.ntmps, none, []⟩ (bodyPost P fn R) c (fr0 0 args.toList) w) : Calls P f args w R := by
  refine calls_of_wp hf hb (wpIn_wide.1 (h _ ⟨rfl, by have := Nat.le_of_ble_eq_true hn; simp; omega, fun t v ht => ?_⟩))
  obtain ⟨_, h2⟩ := look_fr0 _ _ _ _ ht
  have h3 : args[t]? = some v := by simpa using h2
  have hlt : t < args.size := (Array.getElem?_eq_some_iff.1 h3).1
  simp [Array.getElem?_append_left hlt, h3]
end
end Go.Proofs.YtoeinhlmkpgjhaaGreatDoor
namespace Go.Proofs.YtoeinhlmkpgjhaaGreatDoor
open Go.RowKit
set_option linter.unusedVariables false
set_option linter.unusedSimpArgs false
section
variable {P : Program} {ops : Array Oper} {n : Md} {Q : Exit → Act → World → Prop} {rest : List Oper} {fr : Fr} {w : World} {C : World → Prop} {Z : Act → Prop}
def WQ (P : Program) (ops : Array Oper) (n : Md) (C : World → Prop) (Z : Act → Prop) (rest : List Oper) (fr : Fr) : Prop := ∀ a, FrOk n fr a → wpQuiet P ops C Z rest a
def ZX (n : Md) (C : World → Prop) (Q : Exit → Act → World → Prop) : Act → Prop := fun a => ∀ w, C w → Q .normal a w
theorem WQ.nil (h : ∀ a, FrOk n fr a → Z a) : WQ P ops n C Z [] fr := fun a ha => wpQuiet_nil (h a ha)
theorem WQ.nilX (h : ∀ w, C w → WX n Q .normal fr w) : WQ P ops n C (ZX n C Q) [] fr := WQ.nil fun a ha w hw => h w hw a ha
theorem WQ.wanted {o : Oper} (hw : want ops fr o = some true) (h : ∀ a, FrOk n fr a → ∀ K : Act → Prop, (∀ a, wpQuiet P ops C Z rest a → K a) → o.quiet P a C K) : WQ P ops n C Z (o :: rest) fr := by
  intro a ha
  refine wpQuiet_step fun K hK => ?_
  rw [ha.want hw, if_pos rfl]
  exact h a ha K hK
theorem WQ.skip {o : Oper} {d : Nat} (hw : want ops fr o = some false := by kernel_rfl) (hd : o.dst = some d := by kernel_rfl) (hn : Nat.blt d n.n = true := by kernel_rfl) (k : WQ P ops n C Z rest ((d, undef) :: fr)) : WQ P ops n C Z (o :: rest) fr := by
  intro a ha
  refine wpQuiet_step fun K hK => ?_
  rw [ha.want hw, if_neg (by decide), hd]
  exact hK _ (k _ (ha.put hn _))
theorem WQ.op {o : Oper} {d : Nat} (v : Value) (hw : want ops fr o = some true := by kernel_rfl) (hs : okOps fr o = true := by kernel_rfl) (hr : ∀ w, C w → (execOp (evf fr) o).run P w = .ok (.value v) w := by intro _ _; kernel_rfl) (hd : o.dst = some d := by kernel_rfl) (hn : Nat.blt d n.n = true := by kernel_rfl)
    (k : WQ P ops n C Z rest ((d, v) :: fr)) : WQ P ops n C Z (o :: rest) fr :=
  WQ.wanted hw fun a ha K hK => ⟨v, fun w hC => by
    unfold Oper.quietAt
    rw [ha.exec hs, hr w hC]
    exact ⟨rfl, rfl⟩, by rw [hd]; exact hK _ (k _ (ha.put hn _))⟩
theorem WQ.opE {o : Oper} {d : Nat} (v0 : Value) {v : Value} (he : v0 = v := by kernel_rfl) (hw : want ops fr o = some true := by kernel_rfl) (hs : okOps fr o = true := by kernel_rfl) (hr : ∀ w, C w → (execOp (evf fr) o).run P w = .ok (.value v0) w := by intro _ _; kernel_rfl) (hd : o.dst = some d := by kernel_rfl) (hn : Nat.blt d n.n = true := by kernel_rfl)
    (k : WQ P ops n C Z rest ((d, v) :: fr)) : WQ P ops n C Z (o :: rest) fr := WQ.op v hw hs (he ▸ hr) hd hn k
theorem WQ.load {T : TypeId} {x : Operand} {d : Nat} {p : Addr} {v : Value} {ty : TypeId} {ps : String} {af : Array Edge} {g : Option (Nat × Bool)} (hl : ∀ w, C w → (loadVar T p).run P w = .ok v w)
    (hw : want ops fr ⟨some d, .load T x, ty, ps, af, g⟩ = some true := by kernel_rfl) (he : ev fr x = some (.pointer (some p)) := by kernel_rfl) (hn : Nat.blt d n.n = true := by kernel_rfl) (k : WQ P ops n C Z rest ((d, v) :: fr)) : WQ P ops n C Z (⟨some d, .load T x, ty, ps, af, g⟩ :: rest) fr :=
  WQ.wanted hw fun a ha K hK => ⟨v, fun w hC => by
    unfold Oper.quietAt
    simp only [execOp, ha.eval he, Instr.loadAt, Instr.sureAddr, Sem.run_bind, Sem.run_pure, Result.andThen_ok, hl w hC, Oper.quietUpon, and_self], hK _ (k _ (ha.put hn _))⟩
theorem WQ.bin {B : BinOp} {T T2 : TypeId} {x y : Operand} {d : Nat} {vx vy v : Value} {ty : TypeId} {ps : String} {af : Array Edge} {g : Option (Nat × Bool)} (hb : ∀ w, (binOp B T vx vy).run P w = .ok v w)
    (hg : ∀ w, (eqGuard B T x y vx vy).run P w = .ok () w := by intro _; kernel_rfl) (hw : want ops fr ⟨some d, .binOp B T x y T2, ty, ps, af, g⟩ = some true := by kernel_rfl) (hx : ev fr x = some vx := by kernel_rfl) (hy : ev fr y = some vy := by kernel_rfl) (hn : Nat.blt d n.n = true := by kernel_rfl)
    (k : WQ P ops n C Z rest ((d, v) :: fr)) : WQ P ops n C Z (⟨some d, .binOp B T x y T2, ty, ps, af, g⟩ :: rest) fr :=
  WQ.wanted hw fun a ha K hK => ⟨v, fun w hC => by
    unfold Oper.quietAt
    simp only [execOp, ha.eval hx, ha.eval hy, Sem.run_bind, hg w, Sem.run_pure, Result.andThen_ok, hb w, Oper.quietUpon, and_self], hK _ (k _ (ha.put hn _))⟩
theorem WQ.call {f : FuncId} {xs : Array Operand} {ats : Array TypeId} {args : Array Value} {v : Value} {d : Nat} {ty : TypeId} {ps : String} {af : Array Edge} {g : Option (Nat × Bool)}
    (hf : CF P f) (hc : ∀ w, C w → Calls P f args w (fun e w' => e = .returned v ∧ C w')) (hw : want ops fr ⟨some d, .call ⟨.value (.func f), xs, ats⟩, ty, ps, af, g⟩ = some true) (he : evs fr xs.toList = some args.toList) (hn : Nat.blt d n.n = true)
    (k : WQ P ops n C Z rest ((d, v) :: fr)) : WQ P ops n C Z (⟨some d, .call ⟨.value (.func f), xs, ats⟩, ty, ps, af, g⟩ :: rest) fr :=
  WQ.wanted hw fun a ha K hK => ⟨v, fun w hC => by
    have hargs : xs.map a.eval = args := by
      apply Array.ext'
      simpa using ha.evs he
    unfold Oper.quietAt
    simp only [execOp, resolve, Act.eval, Deferred.ofValue, hargs, Sem.run_bind, Sem.run_pure, Result.andThen_ok, invoke, Array.empty_append, Array.append_empty, hf args w, Oper.quietUpon, true_and]
    exact hc w hC, hK _ (k _ (ha.put hn _))⟩
theorem WQ.rw {t : Nat} {u v : Value} (hu : u = v) (he : look fr t = some u := by kernel_rfl) (k : WQ P ops n C Z rest ((t, v) :: fr)) : WQ P ops n C Z rest fr := fun a ha => k a (ha.rw he hu)
theorem WQ.callG {f : FuncId} {o : Oper} {args : Array Value} {v : Value} {d : Nat} {R : World → Ending → World → Prop} (hc : ∀ w, C w → Calls P f args w (R w)) (hR : ∀ w e w', C w → R w e w' → e = .returned v ∧ C w') (hw : want ops fr o = some true := by kernel_rfl) (hs : okOps fr o = true := by kernel_rfl) (hr : ∀ w, C w → (execOp (evf fr) o).run P w = .ok (.enter f args) w := by intro _ _; kernel_rfl) (hd : o.dst = some d := by kernel_rfl) (hn : Nat.blt d n.n = true := by kernel_rfl)
    (k : WQ P ops n C Z rest ((d, v) :: fr)) : WQ P ops n C Z (o :: rest) fr :=
  WQ.wanted hw fun a ha K hK => ⟨v, fun w hC => by
    unfold Oper.quietAt
    rw [ha.exec hs, hr w hC]
    exact ⟨rfl, (hc w hC).mono fun e w' h => hR w e w' hC h⟩, by rw [hd]; exact hK _ (k _ (ha.put hn _))⟩
theorem addsR {w0 : World} {v : Value} : ∀ (w : World) (e : Ending) (w' : World), Adds w0 w → (e = .returned v ∧ Adds w w') → e = .returned v ∧ Adds w0 w' := fun w e w' h k => ⟨k.1, h.trans k.2⟩
def Nds (ops : Array Oper) : Prop := ∀ (j : Nat) (o : Oper), ops[j]? = some o → notSel o.op = true
theorem nds_arr {l : List Oper} (h : l.all (fun o => notSel o.op) = true) : Nds l.toArray := fun j o hj => List.all_eq_true.1 h o (List.mem_of_getElem? (by simpa using hj))
theorem wpOpIn_of_q {R0 : Option Nat} {i : Nat} {a : Act} {K : Act → Prop} {K' : Act → World → Prop} {Q' : Exit → Act → World → Prop} {w : World} (nd : Nds ops) (hC : C w) (h : ∀ a w', C w' → K a → K' a w') (hh : qOp P ops C i K a) : wpOpIn (fz R0) 0 P ops Q' i K' a w := by
  unfold qOp at hh
  unfold wpOpIn
  split
  · rename_i ho; simp only [ho] at hh; exact h _ _ hC hh
  · rename_i o ho
    simp only [ho] at hh
    split
    · rename_i hw; simp only [hw, if_true] at hh; exact opLift (nd i o ho) (Oper.wp_of_quiet hC h hh)
    · rename_i hw; simp only [hw] at hh; exact ⟨fun _ _ => trivial, h _ _ hC hh⟩
theorem wpAnyIn_of_q {R0 : Option Nat} {md : Region.Mode} {Q : Act → Prop} {Q' : Exit → Act → World → Prop} (nd : Nds ops) (hQ : ∀ a w, C w → Q a → Q' .normal a w) : ∀ (fuel : Nat) (listed : Array Bool) (a : Act) (w : World), C w →
    wpAnyQ P md ops C Q fuel listed a → wpAnyIn (fz R0) 0 P md ops Q' fuel listed a w
  | 0, _, _, _, hw, h => ⟨h.1, hQ _ _ hw h.2⟩
  | fuel + 1, _, _, _, hw, h => ⟨fun h0 => hQ _ _ hw (h.1 h0), fun i hi => wpOpIn_of_q nd hw (fun a' w' hw' => wpAnyIn_of_q nd hQ fuel _ a' w' hw') (h.2 i hi)⟩
theorem WC.quiet {id : Nat} {l : List Oper} (hm : P.follows .mixedOrders = true := by kernel_rfl) (hB : Region.lexB .any l.toArray = true := by kernel_rfl) (hd : l.all (fun o => notSel o.op) = true := by kernel_rfl) (k : WQ P l.toArray n (Adds w) (ZX n (Adds w) Q) l fr) : WC P n Q (.region id l.toArray true) fr w := fun a ha => by
  simp only [Region.lexB, Bool.and_eq_true] at hB
  refine wpIn_region_any hm (wpAnyIn_of_q (R0 := n.R) (nds_arr hd) (C := Adds w) (Q := ZX n (Adds w) Q) (fun _ w' hw' h => h w' hw') _ _ _ _ ((Keeps.refl _ w).drew) ?_)
  have := wpAnyQ_lex (C := Adds w) (md := .any) hB.1 l 0 (Array.replicate l.toArray.size false) a (by simp) (by simpa using hB.2) (k a ha)
  simpa using this
end
section
variable {P : Program} {ops : Array Oper} {md : Region.Mode} {C : World → Prop}
def AnyC (P : Program) (md : Region.Mode) (ops : Array Oper) (C : World → Prop) (m : Nat) (L : Array Bool → Act → Prop) : Nat → Array Bool → Act → Prop
  | 0, listed, a => L listed a
  | f + 1, listed, a => Region.ready md ops listed ≠ [] ∧ ∀ i ∈ Region.ready md ops listed, i < m ∧ qOp P ops C i (AnyC P md ops C m L f (listed.setIfInBounds i true)) a
theorem AnyC.any {R0 : Option Nat} {m g : Nat} {L : Array Bool → Act → Prop} {Q : Exit → Act → World → Prop} (nd : Nds ops) (hL : ∀ listed a w, C w → L listed a → wpAnyIn (fz R0) 0 P md ops Q g listed a w) :
    ∀ (f : Nat) (listed : Array Bool) (a : Act) (w : World), C w → AnyC P md ops C m L f listed a → wpAnyIn (fz R0) 0 P md ops Q (f + g) listed a w
  | 0, listed, a, w, hw, h => by rw [Nat.zero_add]; exact hL _ _ _ hw h
  | f + 1, listed, a, w, hw, h => by
    rw [Nat.succ_add]
    exact ⟨fun h0 => absurd h0 h.1, fun i hi => wpOpIn_of_q nd hw (fun a' w' hw' h' => AnyC.any nd hL f _ a' w' hw' h') (h.2 i hi).2⟩
theorem AnyC.first {m i : Nat} {oi : Oper} {v : Value} {L : Array Bool → Act → Prop} (hi : ops[i]? = some oi) (hsel : ∀ (j : Nat) (o : Oper) cs b, ops[j]? = some o → o.op ≠ .select cs b)
    (hs : Region.sinkB md ops m = true) (hc : Region.chainB md ops m = true) (hn : m < ops.size) (him : i < m) (hdone : ∀ listed a, L listed a → ∀ j ∈ Region.ready md ops listed, m ≤ j) :
    ∀ (f : Nat) (listed : Array Bool) (a : Act), HeadInv md ops m listed →
      (∀ j oj, ops[j]? = some oj → j ≠ i → listed.getD j true = false → (∀ e ∈ oj.after, Region.binds md e = true → e.on ≠ i) → oi.apart ops oj = true) →
      i ∈ Region.ready md ops listed → YieldsIn P ops C oi v a →
      AnyC P md ops C m L f (listed.setIfInBounds i true) (a.put oi.dst v) → AnyC P md ops C m L (f + 1) listed a := by
  intro f
  induction f with
  | zero =>
    intro listed a inv _ hr hy H
    refine ⟨fun h => (by rw [h] at hr; cases hr), fun j hj => ?_⟩
    have hjm : j < m := Nat.lt_of_not_le fun h => tail_waits hs hc hn inv _ i rfl him (mem_ready.1 hr).1 j h hj
    refine ⟨hjm, ?_⟩
    by_cases hji : j = i
    · subst hji; exact hy.qOp hi H
    · exact absurd (hdone _ _ H j (ready_mono hj hji)) (Nat.not_le.2 hjm)
  | succ f ih =>
    intro listed a inv hfree hr hy H
    have hun := (mem_ready.1 hr).1
    refine ⟨fun h => (by rw [h] at hr; cases hr), fun j hj => ?_⟩
    have hjm : j < m := Nat.lt_of_not_le fun h => tail_waits hs hc hn inv _ i rfl him hun j h hj
    refine ⟨hjm, ?_⟩
    by_cases hji : j = i
    · subst hji; exact hy.qOp hi H
    · obtain ⟨hjun, oj, hoj, hall⟩ := mem_ready.1 hj
      have hnot : ∀ e ∈ oj.after, Region.binds md e = true → e.on ≠ i := fun e he hb heq => by
        have h1 := hall e he hb
        rw [heq, getD_both hun] at h1
        cases h1
      refine qOp_mono (fun a' h3 => ?_) (qOp_put hoj (hfree j oj hoj hji hjun hnot) (fun cs b => hsel i oi cs b hi) (fun cs b => hsel j oj cs b hoj) hy (H.2 j (ready_mono hj hji)).2)
      refine ih _ a' (inv.set hj hjm) (fun k ok hk hki hun' hno => hfree k ok hk hki ?_ hno) (ready_mono hr (Ne.symm hji)) h3.1 ?_
      · by_cases hjk : j = k
        · subst hjk; exact hjun
        · rw [getD_set_ne true hjk] at hun'; exact hun'
      · rw [Array.setIfInBounds_comm _ _ hji]
        exact h3.2
end
end Go.Proofs.YtoeinhlmkpgjhaaGreatDoor
namespace Go.Proofs.YtoeinhlmkpgjhaaGreatDoor
open Go.RowKit
set_option linter.unusedVariables false
structure BuT (T : Nat) : Prop where
  lies : liesAt Tryz.prog Tryz.prog.depth T (2 / Tryz.prog.cellsOf T) 0 76 1 = true
  ne : T ≠ 5
theorem sizeBuilder : (Tryz.prog.info? 76).map (·.size) = some 2 := by kernel_rfl
theorem infoByte : (Tryz.prog.info? 5).map (fun i => (i.zero, i.size, i.bytes)) = some (some (.int .u8 0), 1, 1) := by kernel_rfl
theorem cellsByte : Tryz.prog.cellsOf 5 = 1 := by kernel_rfl
def BuUs (T B b : Nat) (v : Value) (bs : List UInt8) (w : World) : Prop :=
  w.heap[b]? = some (.cells #[.pointer (some ⟨b, 0, none⟩), v] T (0, 0)) ∧ w.ownsRowF B 5 1 v bs.length (Lib.byteCells bs) ∧ v.ownBlock ≠ some b
theorem BuUs.put {T B b : Nat} {v v' : Value} {bs' : List UInt8} {w : World} (hT : BuT T) (hb : w.heap[b]? = some (.cells #[.pointer (some ⟨b, 0, none⟩), v] T (0, 0)))
    (hown : w.ownsRowF B 5 1 v' bs'.length (Lib.byteCells bs')) : BuAt T B b bs' (w.setCell ⟨b, 1, none⟩ v') := by
  have hne := Lib.ownBlock_neF hown hb hT.ne
  refine ⟨_, v', .inr rfl, by rw [heap_set_same hb]; rfl, ?_, hne⟩
  exact hown.kept (row := some b) ⟨rfl, rfl, rfl, by simp [World.setCell], fun k _ hk => Below.heap_setCell _ _ _ _ (fun e => hk (by simp [e]))⟩ (Or.inr hne)
end Go.Proofs.YtoeinhlmkpgjhaaGreatDoor
namespace Go.Proofs.YtoeinhlmkpgjhaaGreatDoor
open Go
def beb (n : Nat) : List UInt8 := if _h : n = 0 then [] else beb (n / 256) ++ [UInt8.ofNat (n % 256)]
termination_by n
decreasing_by omega
def encNum (n : Nat) : List UInt8 := UInt8.ofNat (beb n).length :: beb n
theorem beb_zero : beb 0 = [] := by rw [beb]; simp
theorem beb_pos {n : Nat} (h : n ≠ 0) : beb n = beb (n / 256) ++ [UInt8.ofNat (n % 256)] := by rw [beb]; simp [h]
theorem u8_toNat_ofNat (m : Nat) : (UInt8.ofNat (m % 256)).toNat = m % 256 := by
  rw [UInt8.toNat_ofNat']; omega
end Go.Proofs.YtoeinhlmkpgjhaaGreatDoor
namespace Go.Proofs
open Go.Shelf
namespace YtoeinhlmkpgjhaaGreatDoor
open Go.RowKit
set_option linter.unusedVariables false
def encText (s : List UInt8) : List UInt8 := encNum s.length ++ s
def encFlag (f : Bool) : List UInt8 := encNum (if f then 1 else 0)
end YtoeinhlmkpgjhaaGreatDoor
end Go.Proofs
namespace Go.Proofs.YtoeinhlmkpgjhaaGreatDoor
open Go.RowKit
theorem Keeps.cell {S : Nat → Prop} {a b : World} (k : Keeps S a b) {p : Addr} {v : Value} (h : a.cell? p = some v) (hn : ¬ S p.block) : b.cell? p = some v := by
  have hlt : p.block < a.heap.size := World.block_lt_of_cell? a p h
  rw [World.cell?_of_block (k.block p.block hlt hn)]
  exact h
theorem Keeps.lt {S : Nat → Prop} {a b : World} (k : Keeps S a b) {i : Nat} (h : i < a.heap.size) : i < b.heap.size := Nat.lt_of_lt_of_le h k.size
theorem Keeps.box {S : Nat → Prop} {w w1 : World} {cs : Array Value} {t : TypeId} (k : Keeps S (w.alloc (.cells cs t)) w1) {j : Nat} {v : Value} (h : cs[j]? = some v) (hn : ¬ S w.heap.size) : w1.cell? ⟨w.heap.size, j, none⟩ = some v := by
  refine k.cell ?_ hn
  exact cell_at (heap_alloc_new' w _) j h
theorem Keeps.trans_alloc {S : Nat → Prop} {w w1 : World} {o : Obj} (k : Keeps S (w.alloc o) w1) : Keeps S w w1 := (Keeps.refl S w).alloc o |>.trans k
end Go.Proofs.YtoeinhlmkpgjhaaGreatDoor
namespace Go.Proofs.YtoeinhlmkpgjhaaGreatDoor
open Go.RowKit
set_option linter.unusedVariables false
def BuR (T B b : Nat) (r : Option Nat) (bs : List UInt8) (w : World) : Prop :=
  ∃ p v, (p = Value.pointer none ∨ p = Value.pointer (some ⟨b, 0, none⟩)) ∧ w.heap[b]? = some (.cells #[p, v] T (0, 0)) ∧
    w.ownsRowF B 5 1 v bs.length (Lib.byteCells bs) ∧ v.ownBlock ≠ some b ∧ v.ownBlock = r
theorem BuAt.r {T B b : Nat} {bs : List UInt8} {w : World} (h : BuAt T B b bs w) : ∃ r, BuR T B b r bs w := by
  obtain ⟨p, v, h1, h2, h3, h4⟩ := h
  exact ⟨_, p, v, h1, h2, h3, h4, rfl⟩
theorem BuR.at {T B b : Nat} {r : Option Nat} {bs : List UInt8} {w : World} (h : BuR T B b r bs w) : BuAt T B b bs w := by
  obtain ⟨p, v, h1, h2, h3, h4, _⟩ := h
  exact ⟨p, v, h1, h2, h3, h4⟩
theorem BuR.lt {T B b : Nat} {r : Option Nat} {bs : List UInt8} {w : World} (h : BuR T B b r bs w) : ∀ k, r = some k → B ≤ k ∧ k < w.heap.size ∧ k ≠ b := by
  obtain ⟨p, v, h1, h2, h3, h4, rfl⟩ := h
  intro k hk
  have := h3.lt k hk
  exact ⟨this.1, this.2, fun e => h4 (e ▸ hk)⟩
theorem BuR.keeps {T B b : Nat} {r : Option Nat} {bs : List UInt8} {w w' : World} {S : Nat → Prop} (h : BuR T B b r bs w) (k : Keeps S w w') (h1 : ¬ S b) (h2 : ∀ i, r = some i → ¬ S i) : BuR T B b r bs w' := by
  obtain ⟨p, v, hp, hb, hown, hne, hr⟩ := h
  refine ⟨p, v, hp, k.heap hb h1, ⟨hown.1, ?_⟩, hne, hr⟩
  rcases hown.2 with hn | ⟨g, cap, cur, fz, rfl, hbg, hg, rest⟩
  · exact .inl hn
  · exact .inr ⟨g, cap, cur, fz, rfl, hbg, k.heap hg (h2 g (by rw [← hr]; rfl)), rest⟩
end Go.Proofs.YtoeinhlmkpgjhaaGreatDoor
namespace Go.Proofs.YtoeinhlmkpgjhaaGreatDoor
open Go.RowKit
theorem ownsRowF_weaken {w : World} {B B' : Nat} {e : TypeId} {size : Nat} {v : Value} {n : Nat} {xs : List Value} (h : w.ownsRowF B e size v n xs) (hB : B' ≤ B) : w.ownsRowF B' e size v n xs := by
  refine ⟨h.1, ?_⟩
  rcases h.2 with hn | ⟨g, cap, cur, fz, hv, hb, rest⟩
  · exact .inl hn
  · exact .inr ⟨g, cap, cur, fz, hv, Nat.le_trans hB hb, rest⟩
end Go.Proofs.YtoeinhlmkpgjhaaGreatDoor
namespace Go.Proofs.YtoeinhlmkpgjhaaGreatDoor
open Go.RowKit
set_option linter.unusedVariables false
def WrPost (T b : Nat) (r : Option Nat) (bs : List UInt8) (w w' : World) : Prop :=
  ∃ r', BuR T 0 b r' bs w' ∧ (r' = r ∨ ∃ k, r' = some k ∧ w.heap.size ≤ k) ∧ Keeps (fun k => k = b ∨ r = some k) w w'
theorem WrPost.refl {T b : Nat} {r : Option Nat} {bs : List UInt8} {w : World} (h : BuR T 0 b r bs w) : WrPost T b r bs w w := ⟨r, h, .inl rfl, Keeps.refl _ _⟩
theorem WrPost.size {T b : Nat} {r : Option Nat} {bs : List UInt8} {w w' : World} (h : WrPost T b r bs w w') : w.heap.size ≤ w'.heap.size := by
  obtain ⟨_, _, _, k⟩ := h; exact k.size
theorem WrPost.keeps {T b : Nat} {r : Option Nat} {bs : List UInt8} {w w' : World} (h : WrPost T b r bs w w') : Keeps (fun k => k = b ∨ r = some k) w w' := by
  obtain ⟨_, _, _, k⟩ := h; exact k
theorem WrPost.step {T b : Nat} {r : Option Nat} {bs bs' : List UInt8} {w w1 w2 : World} (h : WrPost T b r bs w w1) (g : ∀ r1, BuR T 0 b r1 bs w1 → WrPost T b r1 bs' w1 w2) : WrPost T b r bs' w w2 := by
  obtain ⟨r1, h1, n1, k1⟩ := h
  obtain ⟨r2, h2, n2, k2⟩ := g r1 h1
  have hs := k1.size
  refine ⟨r2, h2, ?_, k1.trans' k2 (fun i hi hx => ?_)⟩
  · rcases n2 with rfl | ⟨k, rfl, hk⟩
    · exact n1
    · exact .inr ⟨k, rfl, by omega⟩
  · rcases hx with hx | hx
    · exact .inl hx
    · rcases n1 with rfl | ⟨k, rfl, hk⟩
      · exact .inr hx
      · cases hx; omega
theorem WrPost.then {T b : Nat} {r : Option Nat} {bs : List UInt8} {w w1 w2 : World} (h : WrPost T b r bs w w1) (k : Adds w1 w2) : WrPost T b r bs w w2 := by
  obtain ⟨r1, h1, n1, k1⟩ := h
  exact ⟨r1, h1.keeps k id (fun _ _ x => x), n1, k1.trans (k.any _)⟩
theorem WrPost.drewN {T b : Nat} {r : Option Nat} {bs : List UInt8} {w w1 : World} (h : WrPost T b r bs w w1) (n : Nat) : WrPost T b r bs w (w1.drewN n) := h.then ((Keeps.refl _ _).drewN n)
theorem WrPost.drew {T b : Nat} {r : Option Nat} {bs : List UInt8} {w w1 : World} (h : WrPost T b r bs w w1) : WrPost T b r bs w w1.drew := h.then ((Keeps.refl _ _).drew)
theorem WrPost.alloc {T b : Nat} {r : Option Nat} {bs : List UInt8} {w w1 : World} (h : WrPost T b r bs w w1) (o : Obj) : WrPost T b r bs w (w1.alloc o) := h.then ((Keeps.refl _ _).alloc o)
theorem WrPost.adds {T b : Nat} {bs : List UInt8} {w w1 w2 : World} {r : Option Nat} (h : WrPost T b r bs w1 w2) (k : Adds w w1) (hb : w.heap.size ≤ b) (hr : ∀ i, r = some i → w.heap.size ≤ i) : Adds w w2 :=
  k.trans' h.keeps (fun i hi hx => by rcases hx with hx | hx; omega; have := hr i hx; omega)
theorem BuR.base {T B b : Nat} {r : Option Nat} {bs : List UInt8} {w : World} (h : BuR T B b r bs w) : BuR T 0 b r bs w := by
  obtain ⟨p, v, h1, h2, h3, h4⟩ := h
  exact ⟨p, v, h1, h2, ownsRowF_weaken h3 (Nat.zero_le _), h4⟩
end Go.Proofs.YtoeinhlmkpgjhaaGreatDoor
namespace Go.Proofs.YtoeinhlmkpgjhaaGreatDoor
open Go.RowKit
set_option linter.unusedVariables false
end Go.Proofs.YtoeinhlmkpgjhaaGreatDoor
namespace Go.Proofs.YtoeinhlmkpgjhaaGreatDoor
open Go.RowKit
set_option linter.unusedVariables false
end Go.Proofs.YtoeinhlmkpgjhaaGreatDoor
namespace Go.Proofs.YtoeinhlmkpgjhaaGreatDoor
open Go.RowKit
set_option linter.unusedVariables false
end Go.Proofs.YtoeinhlmkpgjhaaGreatDoor
namespace Go.Proofs.YtoeinhlmkpgjhaaGreatDoor
open Go.RowKit
set_option linter.unusedVariables false
end Go.Proofs.YtoeinhlmkpgjhaaGreatDoor
namespace Go.Proofs.YtoeinhlmkpgjhaaGreatDoor
open Go.RowKit
set_option linter.unusedVariables false
end Go.Proofs.YtoeinhlmkpgjhaaGreatDoor
namespace Go.Proofs.YtoeinhlmkpgjhaaGreatDoor
open Go.RowKit
set_option linter.unusedVariables false
end Go.Proofs.YtoeinhlmkpgjhaaGreatDoor
namespace Go.Proofs.YtoeinhlmkpgjhaaGreatDoor
open Go.RowKit
set_option linter.unusedVariables false
end Go.Proofs.YtoeinhlmkpgjhaaGreatDoor
namespace Go.Proofs.YtoeinhlmkpgjhaaGreatDoor
open Go.RowKit
set_option linter.unusedVariables false
end Go.Proofs.YtoeinhlmkpgjhaaGreatDoor
namespace Go.Proofs.YtoeinhlmkpgjhaaGreatDoor
open Go.RowKit
set_option linter.unusedVariables false
set_option linter.unusedSimpArgs false
section
variable {T T' b c : Nat} {r r' r0 : Option Nat} {bs : List UInt8} {w w' w0 : World} {cs : Array Value} {fz : Nat × Nat}
theorem BuR.offT (h : BuR T 0 b r bs w) (hc : w.heap[c]? = some (.cells cs T' fz)) (hT : T' ≠ 5) : ¬ r = some c := by
  obtain ⟨p, v, _, _, hown, _, rfl⟩ := h
  intro e
  rcases hown.2 with ⟨rfl, _⟩ | ⟨g, cap, cur, fz', rfl, _, hg, _⟩
  · simp [Value.ownBlock] at e
  · have : g = c := by simpa [Value.ownBlock] using e
    subst this
    rw [hc] at hg
    simp only [Option.some.injEq, Obj.cells.injEq] at hg
    exact hT hg.2.1
abbrev WLink (w0 : World) (r0 r : Option Nat) : Prop := r = r0 ∨ ∃ k, r = some k ∧ w0.heap.size ≤ k
theorem WLink.step {S : Nat → Prop} (h : WLink w0 r0 r) (K : Keeps S w0 w) (n : r' = r ∨ ∃ k, r' = some k ∧ w.heap.size ≤ k) : WLink w0 r0 r' := by
  rcases n with rfl | ⟨k, rfl, hk⟩
  · exact h
  · exact .inr ⟨k, rfl, Nat.le_trans K.size hk⟩
theorem WLink.own (h : WLink w0 none r) (z : w0.heap.size ≤ b) (S : Nat → Prop) : ∀ i, i < w0.heap.size → (i = b ∨ r = some i) → S i := fun i hi e => by
  rcases e with rfl | e
  · omega
  · rcases h with rfl | ⟨k, rfl, hk⟩
    · cases e
    · cases e; omega
end
end Go.Proofs.YtoeinhlmkpgjhaaGreatDoor
namespace Go.Proofs.YtoeinhlmkpgjhaaGreatDoor
open Go.RowKit
set_option linter.unusedVariables false
set_option linter.unusedSimpArgs false
theorem WL.newF {P : Program} {ops : Array Oper} {n : Md} {Q : Exit → Act → World → Prop} {rest : List Oper} {fr : Fr} {w : World} {o : Oper} {d : Nat} {T : TypeId} (cs : Array Value) (f : Nat → Value) (hw : want ops fr o = some true := by kernel_rfl) (hs : okOps fr o = true := by kernel_rfl) (hd : o.dst = some d := by kernel_rfl) (hn : Nat.blt d n.n = true := by kernel_rfl)
    (hr : (execOp (evf fr) o).run P w = .ok (.value (f w.heap.size)) (w.alloc (.cells cs T)) := by kernel_rfl)
    (k : ∀ (b : Nat) (w' : World), w.heap.size ≤ b → w'.heap[b]? = some (.cells cs T (0, 0)) → Adds w w' → WL P ops n Q rest ((d, f b) :: fr) w') : WL P ops n Q (o :: rest) fr w :=
  WL.opW _ hw hs hr hd hn (k _ _ (Nat.le_refl _) (heap_alloc_new' w _) ((Keeps.refl _ w).alloc _))
def oev (fr : Fr) : Option Operand → Option (Option Value)
  | none => some none
  | some x => match ev fr x with
    | some v => some (some v)
    | none => none
theorem FrOk.oeval {n : Md} {fr : Fr} {a : Act} (h : FrOk n fr a) {x : Option Operand} {v : Option Value} (he : oev fr x = some v) : x.map a.eval = v := by
  cases x with
  | none => simpa [oev] using he
  | some x =>
    simp only [oev] at he
    cases hx : ev fr x with
    | none => simp [hx] at he
    | some u => simp only [hx, Option.some.injEq] at he; simp [h.eval hx, he]
section
variable {P : Program} {ops : Array Oper} {n : Md} {Q : Exit → Act → World → Prop} {rest : List Oper} {fr : Fr} {w : World} {C : World → Prop} {Z : Act → Prop}
theorem run_idx {T E : TypeId} {m b o len cap : Nat} {kk : IntKind} {i : Int} (hT : P.underlying T = some (.slice E)) (hE : (P.info? E).map (·.size) = some m) (h0 : 0 ≤ i) (h1 : i < len) :
    (Instr.indexAt T (.slice (some ⟨b, o, none⟩) len cap) (.int kk i)).run P w = .ok (.pointer (some ⟨b, o + i.toNat * m, none⟩)) w := by
  obtain ⟨j, hj, hjs⟩ := Option.map_eq_some_iff.1 hE
  have ha : (⟨b, o, none⟩ : Addr).add (i.toNat * m) = ⟨b, o + i.toNat * m, none⟩ := by
    unfold Addr.add; split <;> simp_all
  simp [Instr.indexAt, asIntOf, run_underlying hT, h0, h1, sizeOf, typeInfo, hj, hjs, ha]
theorem WL.idx {T E : TypeId} {m b o len cap d : Nat} {kk : IntKind} {i : Int} {x y : Operand} {ty : TypeId} {ps : String} {af : Array Edge} {g : Option (Nat × Bool)} (h0 : 0 ≤ i) (h1 : i < len) (hT : P.underlying T = some (.slice E) := by kernel_rfl) (hE : (P.info? E).map (·.size) = some m := by kernel_rfl)
    (hw : want ops fr ⟨some d, .indexAddr T x y, ty, ps, af, g⟩ = some true := by kernel_rfl) (hx : ev fr x = some (.slice (some ⟨b, o, none⟩) len cap) := by kernel_rfl) (hy : ev fr y = some (.int kk i) := by kernel_rfl) (hn : Nat.blt d n.n = true := by kernel_rfl)
    (k : WL P ops n Q rest ((d, .pointer (some ⟨b, o + i.toNat * m, none⟩)) :: fr) w) : WL P ops n Q (⟨some d, .indexAddr T x y, ty, ps, af, g⟩ :: rest) fr w :=
  WL.wanted hw fun a ha K hK => by
    unfold Oper.wp
    simp only [execOp, ha.eval hx, ha.eval hy, Sem.run_bind, run_idx hT hE h0 h1, Result.andThen_ok, Sem.run_pure, Oper.upon_value]
    exact hK _ _ (k _ (ha.put hn _))
theorem WQ.idx {T E : TypeId} {m b o len cap d : Nat} {kk : IntKind} {i : Int} {x y : Operand} {ty : TypeId} {ps : String} {af : Array Edge} {g : Option (Nat × Bool)} (h0 : 0 ≤ i) (h1 : i < len) (hT : P.underlying T = some (.slice E) := by kernel_rfl) (hE : (P.info? E).map (·.size) = some m := by kernel_rfl)
    (hw : want ops fr ⟨some d, .indexAddr T x y, ty, ps, af, g⟩ = some true := by kernel_rfl) (hx : ev fr x = some (.slice (some ⟨b, o, none⟩) len cap) := by kernel_rfl) (hy : ev fr y = some (.int kk i) := by kernel_rfl) (hn : Nat.blt d n.n = true := by kernel_rfl)
    (k : WQ P ops n C Z rest ((d, .pointer (some ⟨b, o + i.toNat * m, none⟩)) :: fr)) : WQ P ops n C Z (⟨some d, .indexAddr T x y, ty, ps, af, g⟩ :: rest) fr :=
  WQ.wanted hw fun a ha K hK => ⟨_, fun w _ => by
    unfold Oper.quietAt
    simp only [execOp, ha.eval hx, ha.eval hy, Sem.run_bind, run_idx hT hE h0 h1, Result.andThen_ok, Sem.run_pure, Oper.quietUpon, and_self], hK _ (k _ (ha.put hn _))⟩
end
def BytesAt (b : Nat) (l : List UInt8) (c : Nat) (w : World) : Prop := l.length ≤ c ∧ w.heap[b]? = some (.cells (Lib.byteCells l ++ List.replicate (c - l.length) (Value.int .u8 0)).toArray 5 (c, c + 1))
section
variable {b c : Nat} {l : List UInt8} {w w' : World}
theorem BytesAt.lt (h : BytesAt b l c w) : b < w.heap.size := lt_of_heap h.2
theorem BytesAt.keeps {S : Nat → Prop} (h : BytesAt b l c w) (k : Keeps S w w') (hn : ¬ S b) : BytesAt b l c w' := ⟨h.1, k.heap h.2 hn⟩
end
section
variable {P : Program} {ops : Array Oper} {n : Md} {Q : Exit → Act → World → Prop} {rest : List Oper} {fr : Fr} {w : World} {C : World → Prop} {Z : Act → Prop}
theorem WL.conv {T T2 : TypeId} {x : Operand} {d : Nat} {vx v : Value} {w' : World} {ty : TypeId} {ps : String} {af : Array Edge} {g : Option (Nat × Bool)} (hc : (convert T T2 vx).run P w = .ok v w')
    (hw : want ops fr ⟨some d, .convert T T2 x, ty, ps, af, g⟩ = some true := by kernel_rfl) (hx : ev fr x = some vx := by kernel_rfl) (hn : Nat.blt d n.n = true := by kernel_rfl)
    (k : WL P ops n Q rest ((d, v) :: fr) w') : WL P ops n Q (⟨some d, .convert T T2 x, ty, ps, af, g⟩ :: rest) fr w :=
  WL.wanted hw fun a ha K hK => by
    unfold Oper.wp
    simp only [execOp, ha.eval hx, Sem.run_bind, hc, Sem.run_pure, Result.andThen_ok, Oper.upon_value]
    exact hK _ _ (k _ (ha.put hn _))
theorem WL.cut {T : TypeId} {x : Operand} {lo hi mx : Option Operand} {lo' hi' mx' : Option Value} {d : Nat} {vx v : Value} {ty : TypeId} {ps : String} {af : Array Edge} {g : Option (Nat × Bool)} (hr : (Instr.sliceAt T vx lo' hi' mx').run P w = .ok v w)
    (hw : want ops fr ⟨some d, .slice T x lo hi mx, ty, ps, af, g⟩ = some true := by kernel_rfl) (hx : ev fr x = some vx := by kernel_rfl) (hlo : oev fr lo = some lo' := by kernel_rfl) (hhi : oev fr hi = some hi' := by kernel_rfl) (hmx : oev fr mx = some mx' := by kernel_rfl) (hn : Nat.blt d n.n = true := by kernel_rfl)
    (k : WL P ops n Q rest ((d, v) :: fr) w) : WL P ops n Q (⟨some d, .slice T x lo hi mx, ty, ps, af, g⟩ :: rest) fr w :=
  WL.wanted hw fun a ha K hK => by
    unfold Oper.wp
    simp only [execOp, ha.eval hx, ha.oeval hlo, ha.oeval hhi, ha.oeval hmx, Sem.run_bind, hr, Sem.run_pure, Result.andThen_ok, Oper.upon_value]
    exact hK _ _ (k _ (ha.put hn _))
theorem WQ.cut {T : TypeId} {x : Operand} {lo hi mx : Option Operand} {lo' hi' mx' : Option Value} {d : Nat} {vx v : Value} {ty : TypeId} {ps : String} {af : Array Edge} {g : Option (Nat × Bool)} (hr : ∀ w, (Instr.sliceAt T vx lo' hi' mx').run P w = .ok v w)
    (hw : want ops fr ⟨some d, .slice T x lo hi mx, ty, ps, af, g⟩ = some true := by kernel_rfl) (hx : ev fr x = some vx := by kernel_rfl) (hlo : oev fr lo = some lo' := by kernel_rfl) (hhi : oev fr hi = some hi' := by kernel_rfl) (hmx : oev fr mx = some mx' := by kernel_rfl) (hn : Nat.blt d n.n = true := by kernel_rfl)
    (k : WQ P ops n C Z rest ((d, v) :: fr)) : WQ P ops n C Z (⟨some d, .slice T x lo hi mx, ty, ps, af, g⟩ :: rest) fr :=
  WQ.wanted hw fun a ha K hK => ⟨v, fun w hC => by
    unfold Oper.quietAt
    simp only [execOp, ha.eval hx, ha.oeval hlo, ha.oeval hhi, ha.oeval hmx, Sem.run_bind, hr w, Sem.run_pure, Result.andThen_ok, Oper.quietUpon, and_self], hK _ (k _ (ha.put hn _))⟩
theorem of_bne_false {a b : Int} (h : (a != b) = false) : a = b := by simpa using h
theorem run_cut {T : TypeId} {l : List UInt8} {lo hi : Option Value} {a b : Nat} (hT : P.underlying T = some .string) (hlo : lo = none ∧ a = 0 ∨ ∃ k i, lo = some (.int k i) ∧ i = (a : Int)) (hhi : hi = none ∧ b = l.length ∨ ∃ k i, hi = some (.int k i) ∧ i = (b : Int)) (hab : a ≤ b) (hbl : b ≤ l.length) :
    (Instr.sliceAt T (.string ⟨l.toArray⟩) lo hi none).run P w = .ok (.string ⟨((l.take b).drop a).toArray⟩) w := by
  have hs : (⟨l.toArray⟩ : ByteArray).size = l.length := rfl
  have hcut := str_cut l a b
  rcases hlo with ⟨rfl, rfl⟩ | ⟨k, i, rfl, rfl⟩ <;> rcases hhi with ⟨rfl, rfl⟩ | ⟨k', i', rfl, rfl⟩ <;>
    simp [Instr.sliceAt, Instr.slice, run_underlying hT, Instr.sliceBounds, Instr.sliceBound, asIntOf, hs, hab, hbl, hcut]
  all_goals (try (rw [← hcut])) <;> (try rfl)
end
end Go.Proofs.YtoeinhlmkpgjhaaGreatDoor
namespace Go.Proofs.YtoeinhlmkpgjhaaGreatDoor
open Go.RowKit
set_option linter.unusedVariables false
set_option linter.unusedSimpArgs false
section
variable {P : Program} {md : Region.Mode} {ops : Array Oper} {Q : Exit → Act → World → Prop} {C : World → Prop}
def Nm (Q : Exit → Act → World → Prop) : Exit → Act → World → Prop := fun e a w => e = .normal ∧ Q .normal a w
theorem opTo {F : Fence} {m : Nat} {o : Oper} {a : Act} {w : World} {K K' : Act → World → Prop} {Q Q' : Exit → Act → World → Prop} (h : o.wpIn F m P a w K Q) (hK : ∀ a w, K a w → K' a w) (hQ : ∀ e a w, Q e a w → e = .normal) : o.wpIn F m P a w K' Q' := by
  refine ⟨h.1, ?_⟩
  have h := h.2
  generalize (o.semAt F.round a.eval).run P w = r at *
  cases r with
  | ok x w' =>
    cases x <;> simp only [Oper.uponIn] at h ⊢
    case value u => exact hK _ _ h
    case skip => exact hK _ _ h
    case defer d => exact hK _ _ h
    case enter f args =>
      refine ⟨h.1, CallsIn.mono h.2 (fun e w'' he => ?_)⟩
      cases e with
      | returned u => exact hK _ _ he
      | panicked c => exact absurd (hQ _ _ _ he) (by simp)
      | outgrown => obtain ⟨a0, w0, h0⟩ := he; exact absurd (hQ _ _ _ h0) (by simp)
    case row f args => exact ⟨h.1, RowsIn.mono h.2 (fun u w'' he => hK _ _ he)⟩
    case round l f ts asg b =>
      refine ⟨h.1, RoundIn.mono h.2 (fun e w'' he => ?_)⟩
      cases e with
      | returned u => exact hK _ _ he
      | panicked c => exact absurd (hQ _ _ _ he) (by simp)
      | outgrown => obtain ⟨a0, w0, h0⟩ := he; exact absurd (hQ _ _ _ h0) (by simp)
  | halt x w' =>
    cases x <;> simp only [Oper.uponIn] at h ⊢
    exact absurd (hQ _ _ _ h) (by simp)
theorem nm_normal (e : Exit) (a : Act) (w : World) (h : Nm Q e a w) : e = .normal := h.1
theorem wpOpIn_nm {R0 : Option Nat} {i : Nat} {K : Act → World → Prop} {a : Act} {w : World} (h : wpOpIn (fz R0) 0 P ops (Nm Q) i K a w) : wpOpIn (fz R0) 0 P ops Q i K a w := by
  unfold wpOpIn at *
  split
  · rename_i h0; simpa only [h0] using h
  · rename_i o ho
    simp only [ho] at h
    split
    · rename_i hw
      simp only [hw, if_true] at h
      exact opTo h (fun _ _ h => h) nm_normal
    · rename_i hw; simp only [hw] at h; exact h
def YieldsC (P : Program) (ops : Array Oper) (C : World → Prop) (o : Oper) (v : Value) (a : Act) : Prop :=
  (Region.wanted o (yielded ops a.tmps) = true ∧ ∀ w, C w → (execOp a.eval o).run P w = .ok (.value v) w) ∨ (Region.wanted o (yielded ops a.tmps) = false ∧ v = undef)
theorem YieldsC.wpOp {R0 : Option Nat} {i : Nat} {o : Oper} {v : Value} {a : Act} (nd : Nds ops) (hi : ops[i]? = some o) (hy : YieldsC P ops C o v a) {K : Act → World → Prop} {w : World} (hw : C w) (h : K (a.put o.dst v) w) : wpOpIn (fz R0) 0 P ops Q i K a w := by
  unfold Go.wpOpIn
  simp only [hi]
  rcases hy with ⟨hq, hv⟩ | ⟨hq, rfl⟩
  · simp only [hq, if_true]; exact opLift (nd i o hi) (by unfold Oper.wp; rw [hv w hw]; exact h)
  · simp only [hq, Bool.false_eq_true, if_false]; exact ⟨fun _ _ => trivial, h⟩
theorem YieldsC.same {o : Oper} {v : Value} {a a' : Act} (hy : YieldsC P ops C o v a) (he : execOp a'.eval o = execOp a.eval o) (hw : Region.wanted o (yielded ops a'.tmps) = Region.wanted o (yielded ops a.tmps)) : YieldsC P ops C o v a' := by
  unfold YieldsC at *; rw [he, hw]; exact hy
theorem nd_sel {o : Oper} (h : notSel o.op = true) : ∀ cs b, o.op ≠ .select cs b := fun cs b e => by rw [e] at h; simp [notSel] at h
theorem nd_def {o : Oper} (h : notSel o.op = true) : ∀ c, o.op ≠ .defer c := fun c e => by rw [e] at h; simp [notSel] at h
theorem wpOp_putC {R0 : Option Nat} {j : Nat} {oi oj : Oper} {v : Value} (hj : ops[j]? = some oj) (hap : oi.apart ops oj = true) (ndi : notSel oi.op = true) (ndj : notSel oj.op = true) {K : Act → World → Prop} {a : Act} {w : World}
    (hy : YieldsC P ops C oi v a) (h : wpOpIn (fz R0) 0 P ops (Nm Q) j K (a.put oi.dst v) w) : wpOpIn (fz R0) 0 P ops (Nm Q) j (fun a' w' => YieldsC P ops C oi v a' ∧ K (a'.put oi.dst v) w') a w := by
  obtain ⟨h1, h2, h3⟩ := Oper.apart_spec hap
  have keep : ∀ (a : Act), YieldsC P ops C oi v a → ∀ u, YieldsC P ops C oi v (a.put oj.dst u) := fun a hy u => hy.same (execOp_put oi (nd_sel ndi) a oj.dst u h3) (wanted_put oi a oj.dst u h3)
  unfold wpOpIn at *
  simp only [hj] at *
  rw [wanted_put oj a oi.dst v h1] at h
  split
  · rename_i hw
    simp only [hw, if_true] at h
    refine ⟨fun _ _ => trivial, ?_⟩
    have h := h.2
    rw [Oper.semAt_eq _ _ _ (nd_def ndj)] at h ⊢
    rw [execOp_put oj (nd_sel ndj) a oi.dst v h1] at h
    generalize (execOp a.eval oj).run P w = r at *
    cases r with
    | ok x w' =>
      cases x <;> simp only [Oper.uponIn] at h ⊢
      case value u => exact ⟨keep a hy _, by rw [← Act.put_comm a v u h2]; exact h⟩
      case skip => exact ⟨keep a hy _, by rw [← Act.put_comm a v undef h2]; exact h⟩
      case defer d =>
        have e : ({ a.put oi.dst v with defers := d :: (a.put oi.dst v).defers } : Act) = ({ a with defers := d :: a.defers } : Act).put oi.dst v := by cases oi.dst <;> rfl
        rw [e] at h
        exact ⟨keep { a with defers := d :: a.defers } (hy.same rfl rfl) undef, by rw [← Act.put_comm _ v undef h2]; exact h⟩
      case enter f args =>
        refine ⟨h.1, CallsIn.mono h.2 (fun e w'' he => ?_)⟩
        cases e with
        | returned u => exact ⟨keep a hy _, by rw [← Act.put_comm a v u h2]; exact he⟩
        | panicked c => exact absurd he.1 (by simp)
        | outgrown => obtain ⟨a0, w0, h0, _⟩ := he; cases h0
      case row f args => exact ⟨h.1, RowsIn.mono h.2 (fun u w'' he => ⟨keep a hy _, by rw [← Act.put_comm a v u h2]; exact he⟩)⟩
      case round l f ts asg b =>
        refine ⟨h.1, RoundIn.mono h.2 (fun e w'' he => ?_)⟩
        cases e with
        | returned u => exact ⟨keep a hy _, by rw [← Act.put_comm a v u h2]; exact he⟩
        | panicked c => exact absurd he.1 (by simp)
        | outgrown => obtain ⟨a0, w0, h0, _⟩ := he; cases h0
    | halt x w' =>
      cases x <;> simp only [Oper.uponIn] at h ⊢
      exact absurd h.1 (by simp)
  · rename_i hw
    simp only [hw] at h
    exact ⟨fun _ _ => trivial, keep a hy _, by rw [← Act.put_comm a v undef h2]; exact h.2⟩
theorem getDf_set {l : Array Bool} {i j : Nat} (h : i ≠ j) : (l.setIfInBounds i true).getD j false = l.getD j false := by simp [Array.getD_eq_getD_getElem?, Array.getElem?_setIfInBounds_ne h]
def AnyW (R0 : Option Nat) (P : Program) (md : Region.Mode) (ops : Array Oper) (Q : Exit → Act → World → Prop) (C : World → Prop) (last : Nat) : Nat → Array Bool → Act → World → Prop
  | 0, listed, a, w => Region.ready md ops listed = [] ∧ Q .normal a w
  | f + 1, listed, a, w => (Region.ready md ops listed = [] → Q .normal a w) ∧ ∀ i ∈ Region.ready md ops listed, wpOpIn (fz R0) 0 P ops (Nm Q) i (fun a' w' => (listed.getD last false = false → i ≠ last → C w') ∧ AnyW R0 P md ops Q C last f (listed.setIfInBounds i true) a' w') a w
theorem AnyW.any {R0 : Option Nat} {last : Nat} : ∀ (f : Nat) (listed : Array Bool) (a : Act) (w : World), AnyW R0 P md ops Q C last f listed a w → wpAnyIn (fz R0) 0 P md ops Q f listed a w
  | 0, _, _, _, h => h
  | f + 1, _, _, _, h => ⟨h.1, fun i hi => wpOpIn_mono (fun a' w' h' => AnyW.any f _ a' w' h'.2) (wpOpIn_nm (h.2 i hi))⟩
theorem AnyW.first {R0 : Option Nat} {last i : Nat} {oi : Oper} {v : Value} (hi : ops[i]? = some oi) (nd : Nds ops) (hl : Region.waitsFor md ops last i = true) (hil : i ≠ last) :
    ∀ (f : Nat) (listed : Array Bool) (a : Act) (w : World), C w → listed.getD last false = false →
      (∀ j oj, ops[j]? = some oj → j ≠ i → listed.getD j true = false → (∀ e ∈ oj.after, Region.binds md e = true → e.on ≠ i) → oi.apart ops oj = true) →
      i ∈ Region.ready md ops listed → YieldsC P ops C oi v a → AnyW R0 P md ops Q C last f (listed.setIfInBounds i true) (a.put oi.dst v) w → AnyW R0 P md ops Q C last (f + 1) listed a w := by
  intro f
  induction f with
  | zero =>
    intro listed a w hC hu _ hr hy H
    refine ⟨fun h => (by rw [h] at hr; cases hr), fun j hj => ?_⟩
    by_cases hji : j = i
    · subst hji; exact hy.wpOp nd hi hC ⟨fun _ _ => hC, H⟩
    · have := ready_mono hj hji
      rw [H.1] at this; cases this
  | succ f ih =>
    intro listed a w hC hu hfree hr hy H
    have hun := (mem_ready.1 hr).1
    refine ⟨fun h => (by rw [h] at hr; cases hr), fun j hj => ?_⟩
    by_cases hji : j = i
    · subst hji; exact hy.wpOp nd hi hC ⟨fun _ _ => hC, H⟩
    · obtain ⟨hjun, oj, hoj, hall⟩ := mem_ready.1 hj
      have hnot : ∀ e ∈ oj.after, Region.binds md e = true → e.on ≠ i := fun e he hb heq => by
        have h1 := hall e he hb
        rw [heq, getD_both hun] at h1; cases h1
      have hjl : j ≠ last := fun h => by
        subst h
        obtain ⟨o', ho', e, he, hb, hon⟩ := Region.waitsFor_spec hl
        rw [hoj] at ho'; cases ho'
        exact hnot e he hb hon
      refine wpOpIn_mono (fun a' w' h3 => ⟨fun _ hj => h3.2.1 (by rw [getDf_set hil]; exact hu) hj, ?_⟩) (wpOp_putC hoj (hfree j oj hoj hji hjun hnot) (nd i oi hi) (nd j oj hoj) hy (H.2 j (ready_mono hj hji)))
      refine ih _ a' w' (h3.2.1 (by rw [getDf_set hil]; exact hu) hjl) (by rw [getDf_set hjl]; exact hu) (fun k ok hk hki hun' hno => hfree k ok hk hki ?_ hno) (ready_mono hr (Ne.symm hji)) h3.1 ?_
      · by_cases hjk : j = k
        · subst hjk; exact hjun
        · rw [getD_set_ne true hjk] at hun'; exact hun'
      · rw [Array.setIfInBounds_comm _ _ hji]
        exact h3.2.2
end
section
variable {P : Program} {ops : Array Oper} {n : Md} {Q : Exit → Act → World → Prop} {C : World → Prop} {last f : Nat} {listed : Array Bool} {fr : Fr} {w : World}
def WA (P : Program) (ops : Array Oper) (n : Md) (Q : Exit → Act → World → Prop) (C : World → Prop) (last f : Nat) (listed : Array Bool) (fr : Fr) (w : World) : Prop := ∀ a, FrOk n fr a → AnyW n.R P .any ops Q C last f listed a w
def Nxt (R0 : Option Nat) (P : Program) (ops : Array Oper) (Q : Exit → Act → World → Prop) (C : World → Prop) (last f : Nat) (listed : Array Bool) (i : Nat) : Exit → Act → World → Prop := fun e a w => e = .normal ∧ (listed.getD last false = false → i ≠ last → C w) ∧ AnyW R0 P .any ops Q C last f (listed.setIfInBounds i true) a w
def ndsB (ops : Array Oper) : Bool := ops.toList.all fun o => notSel o.op
theorem ndsB_spec (h : ndsB ops = true) : Nds ops := fun j o hj => List.all_eq_true.1 h o (by
  have := List.mem_of_getElem? (l := ops.toList) (i := j) (a := o) (by simpa using hj)
  exact this)
def freeB (ops : Array Oper) (listed : Array Bool) (last i : Nat) : Bool := (Region.ready .any ops listed).contains i && Region.free .any ops listed i && Region.waitsFor .any ops last i && !(i == last) && !(listed.getD last false)
theorem WA.quiet (i : Nat) {oi : Oper} {d : Nat} (v : Value) (hC : C w) (hr : ∀ w, C w → (execOp (evf fr) oi).run P w = .ok (.value v) w := by intro _ _; kernel_rfl)
    (hs : ndsB ops = true := by kernel_rfl) (hi : ops[i]? = some oi := by kernel_rfl) (hf : freeB ops listed last i = true := by kernel_rfl) (hw : want ops fr oi = some true := by kernel_rfl) (ho : okOps fr oi = true := by kernel_rfl) (hd : oi.dst = some d := by kernel_rfl) (hn : Nat.blt d n.n = true := by kernel_rfl)
    (k : WA P ops n Q C last f (listed.setIfInBounds i true) ((d, v) :: fr) w) : WA P ops n Q C last (f + 1) listed fr w := fun a ha => by
  simp only [freeB, Bool.and_eq_true, Bool.not_eq_true', beq_eq_false_iff_ne] at hf
  obtain ⟨⟨⟨⟨h1, h2⟩, h3⟩, h4⟩, h5⟩ := hf
  refine AnyW.first (v := v) hi (ndsB_spec hs) h3 h4 f listed a w hC h5 (Region.free_spec hi h2) (by simpa using h1) (.inl ⟨ha.want hw, fun w' hw' => ?_⟩) ?_
  · rw [ha.exec ho]; exact hr w' hw'
  · rw [hd]; exact k _ (ha.put hn v)
theorem WA.quietR (i : Nat) {oi : Oper} {d : Nat} (v : Value) (hC : C w) (hr : ∀ a, FrOk n fr a → ∀ w, C w → (execOp a.eval oi).run P w = .ok (.value v) w)
    (hs : ndsB ops = true := by kernel_rfl) (hi : ops[i]? = some oi := by kernel_rfl) (hf : freeB ops listed last i = true := by kernel_rfl) (hw : want ops fr oi = some true := by kernel_rfl) (hd : oi.dst = some d := by kernel_rfl) (hn : Nat.blt d n.n = true := by kernel_rfl)
    (k : WA P ops n Q C last f (listed.setIfInBounds i true) ((d, v) :: fr) w) : WA P ops n Q C last (f + 1) listed fr w := fun a ha => by
  simp only [freeB, Bool.and_eq_true, Bool.not_eq_true', beq_eq_false_iff_ne] at hf
  obtain ⟨⟨⟨⟨h1, h2⟩, h3⟩, h4⟩, h5⟩ := hf
  refine AnyW.first hi (ndsB_spec hs) h3 h4 f listed a w hC h5 (Region.free_spec hi h2) (by simpa using h1) (.inl ⟨ha.want hw, fun w' hw' => hr a ha w' hw'⟩) ?_
  rw [hd]; exact k _ (ha.put hn v)
theorem WX.rw {e : Exit} {t : Nat} {u v : Value} (hu : u = v) (he : look fr t = some u := by kernel_rfl) (k : WX n Q e ((t, v) :: fr) w) : WX n Q e fr w := fun a ha => k a (ha.rw he hu)
theorem WA.rw {t : Nat} {u v : Value} (hu : u = v) (he : look fr t = some u := by kernel_rfl) (k : WA P ops n Q C last f listed ((t, v) :: fr) w) : WA P ops n Q C last f listed fr w := fun a ha => k a (ha.rw he hu)
theorem exec_load {T d : Nat} {x : Operand} {p : Addr} {v : Value} {ty : TypeId} {ps : String} {af : Array Edge} {g : Option (Nat × Bool)} (hl : ∀ w, C w → (loadVar T p).run P w = .ok v w) (he : ev fr x = some (.pointer (some p)) := by kernel_rfl) :
    ∀ a, FrOk n fr a → ∀ w, C w → (execOp a.eval ⟨some d, .load T x, ty, ps, af, g⟩).run P w = .ok (.value v) w := fun a ha w hw => by
  simp only [execOp, ha.eval he, Instr.loadAt, Instr.sureAddr, Sem.run_bind, Sem.run_pure, Result.andThen_ok, hl w hw]
theorem exec_bin {B : BinOp} {T T2 d : Nat} {x y : Operand} {vx vy v : Value} {ty : TypeId} {ps : String} {af : Array Edge} {g : Option (Nat × Bool)} (hb : ∀ w, (binOp B T vx vy).run P w = .ok v w) (hg : ∀ w, (eqGuard B T x y vx vy).run P w = .ok () w := by intro _; kernel_rfl) (hx : ev fr x = some vx := by kernel_rfl) (hy : ev fr y = some vy := by kernel_rfl) :
    ∀ a, FrOk n fr a → ∀ w, C w → (execOp a.eval ⟨some d, .binOp B T x y T2, ty, ps, af, g⟩).run P w = .ok (.value v) w := fun a ha w hw => by
  simp only [execOp, ha.eval hx, ha.eval hy, Sem.run_bind, hg w, Sem.run_pure, Result.andThen_ok, hb w]
theorem exec_idx {T E : TypeId} {m b o len cap d : Nat} {kk : IntKind} {i : Int} {x y : Operand} {ty : TypeId} {ps : String} {af : Array Edge} {g : Option (Nat × Bool)} (h0 : 0 ≤ i) (h1 : i < len) (hT : P.underlying T = some (.slice E) := by kernel_rfl) (hE : (P.info? E).map (·.size) = some m := by kernel_rfl) (hx : ev fr x = some (.slice (some ⟨b, o, none⟩) len cap) := by kernel_rfl) (hy : ev fr y = some (.int kk i) := by kernel_rfl) :
    ∀ a, FrOk n fr a → ∀ w, C w → (execOp a.eval ⟨some d, .indexAddr T x y, ty, ps, af, g⟩).run P w = .ok (.value (.pointer (some ⟨b, o + i.toNat * m, none⟩))) w := fun a ha w hw => by
  simp only [execOp, ha.eval hx, ha.eval hy, Sem.run_bind, run_idx hT hE h0 h1, Result.andThen_ok, Sem.run_pure]
theorem WA.step (i : Nat) {o : Oper} (hr : Region.ready .any ops listed = [i] := by kernel_rfl) (hi : ops[i]? = some o := by kernel_rfl)
    (k : WL P ops n (Nxt n.R P ops Q C last f listed i) [o] fr w) : WA P ops n Q C last (f + 1) listed fr w := fun a ha => by
  have h := k a ha
  refine ⟨fun h0 => (by rw [hr] at h0; cases h0), fun j hj => ?_⟩
  rw [hr] at hj
  have hji : j = i := by simpa using hj
  subst hji
  unfold wpOpIn
  simp only [hi]
  simp only [wpListIn] at h
  split
  · rename_i hw
    rw [if_pos hw] at h
    exact opTo h (fun _ _ h => h.2) (fun _ _ _ h => h.1)
  · rename_i hw
    rw [if_neg hw] at h
    exact ⟨fun _ _ => trivial, h.2.2⟩
theorem WX.nxt {i : Nat} (hC : C w) (k : WA P ops n Q C last f (listed.setIfInBounds i true) fr w) : WX n (Nxt n.R P ops Q C last f listed i) .normal fr w := fun a ha => ⟨rfl, fun _ _ => hC, k a ha⟩
theorem WX.nxtL (k : WA P ops n Q C last f (listed.setIfInBounds last true) fr w) : WX n (Nxt n.R P ops Q C last f listed last) .normal fr w := fun a ha => ⟨rfl, fun _ h => absurd rfl h, k a ha⟩
theorem WA.done (hr : Region.ready .any ops listed = [] := by kernel_rfl) (k : WX n Q .normal fr w) : WA P ops n Q C last 0 listed fr w := fun a ha => ⟨hr, k a ha⟩
theorem WC.mixed {id : Nat} {l : List Oper} (S : Nat → Prop) (last : Nat) (hm : P.follows .mixedOrders = true := by kernel_rfl) (k : ∀ w1, Adds w w1 → WA P l.toArray n Q (Keeps S w1) last l.length (Array.replicate l.length false) fr w1) : WC P n Q (.region id l.toArray true) fr w := fun a ha => by
  refine wpIn_region_any hm ?_
  have h := AnyW.any _ _ _ _ (k { w with drawn := w.drawn + 1 } ((Keeps.refl _ w).drew) a ha)
  simpa using h
end
end Go.Proofs.YtoeinhlmkpgjhaaGreatDoor
namespace Go.Proofs.YtoeinhlmkpgjhaaGreatDoor
open Go.RowKit
set_option linter.unusedVariables false
set_option linter.unusedSimpArgs false
theorem addr_add (b o j : Nat) : (⟨b, o, none⟩ : Addr).add j = ⟨b, o + j, none⟩ := by
  unfold Addr.add; split
  · rename_i h; rw [h]; rfl
  · rfl
structure EK {α : Type} (cl : α → List Value) (m : Nat) (E : TypeId) : Prop where
  len : ∀ x, (cl x).length = m
  one : ∀ x, ∀ u ∈ cl x, u.oneCell' = true
  pos : 0 < m
  info : ∃ i z, Tryz.prog.info? E = some i ∧ i.zero = some z ∧ i.size = m ∧ z.cells.size = m ∧ i.bytes ≤ 512
def SlAt {α : Type} (cl : α → List Value) (m : Nat) (E : TypeId) (A : Option Addr) (xs : List α) (w : World) : Prop :=
  xs = [] ∨ ∃ b o cs E' fz, A = some ⟨b, o, none⟩ ∧ w.heap[b]? = some (.cells cs E' fz) ∧ o + xs.length * m ≤ cs.size ∧ ∀ (i : Nat) r, xs[i]? = some r → (cs.toList.drop (o + i * m)).take m = cl r
def ElAt {α : Type} (cl : α → List Value) (m : Nat) (E : TypeId) (b p : Nat) (r : α) (w : World) : Prop := ∃ cs E' fz, w.heap[b]? = some (.cells cs E' fz) ∧ p + m ≤ cs.size ∧ (cs.toList.drop p).take m = cl r
def OwAt {α : Type} (cl : α → List Value) (m : Nat) (E : TypeId) (A : Option Addr) (cap : Nat) (xs : List α) (w : World) : Prop := w.ownsRow 0 E m (.slice A xs.length cap) xs.length (xs.flatMap cl)
def blk (A : Option Addr) : Option Nat := A.map (·.block)
section
variable {α : Type} {cl : α → List Value} {m : Nat} {E : TypeId} {A A' : Option Addr} {cap : Nat} {xs ys : List α} {w w' : World} {S : Nat → Prop} {b p o : Nat} {r : α}
theorem SlAt.nil : SlAt cl m E A [] w := .inl rfl
theorem SlAt.keeps (h : SlAt cl m E A xs w) (k : Keeps S w w') (hn : xs ≠ [] → ∀ p, A = some p → ¬ S p.block) : SlAt cl m E A xs w' := by
  rcases h with h | ⟨b, o, cs, E', fz, hA, hb, hs, hc⟩
  · exact .inl h
  · by_cases hx : xs = []
    · exact .inl hx
    · exact .inr ⟨b, o, cs, E', fz, hA, k.heap hb (hn hx _ hA), hs, hc⟩
theorem SlAt.adds (h : SlAt cl m E A xs w) (k : Keeps (fun _ => False) w w') : SlAt cl m E A xs w' := h.keeps k (fun _ _ _ x => x)
theorem SlAt.lt (h : SlAt cl m E A xs w) (hx : xs ≠ []) : ∀ p, A = some p → p.block < w.heap.size := fun p hp => by
  rcases h with h | ⟨b, o, cs, E', fz, hA, hb, _⟩
  · exact absurd h hx
  · rw [hA] at hp; cases hp; exact lt_of_heap hb
theorem SlAt.of_lit {cs : Array Value} {fz : Nat × Nat} (hk : EK cl m E) (hb : w.heap[b]? = some (.cells cs E fz)) (hcs : cs.toList = ys.flatMap cl) : SlAt cl m E (some ⟨b, 0, none⟩) ys w := by
  have hl : ∀ l : List α, (l.flatMap cl).length = l.length * m := fun l => by
    induction l with
    | nil => simp
    | cons x l ih => simp [List.flatMap_cons, hk.len, ih, Nat.add_mul, Nat.add_comm]
  refine .inr ⟨b, 0, cs, E, fz, rfl, hb, ?_, fun i r hr => ?_⟩
  · have := congrArg List.length hcs
    rw [hl] at this
    simp at this; omega
  · rw [hcs, Nat.zero_add]
    have hi := (List.getElem?_eq_some_iff.1 hr)
    obtain ⟨hlt, he⟩ := hi
    have h1 : ys = ys.take i ++ r :: ys.drop (i + 1) := by
      rw [← he, ← List.drop_eq_getElem_cons hlt, List.take_append_drop]
    rw [h1, List.flatMap_append, List.flatMap_cons, List.drop_append_of_le_length (by rw [hl]; simp; rw [Nat.min_eq_left (Nat.le_of_lt hlt)]; exact Nat.le_refl _)]
    have h2 : ((ys.take i).flatMap cl).length = i * m := by rw [hl]; simp [Nat.min_eq_left (Nat.le_of_lt hlt)]
    rw [← h2, List.drop_length, List.nil_append, List.take_append_of_le_length (by rw [hk.len]; exact Nat.le_refl _), List.take_of_length_le (by rw [hk.len]; exact Nat.le_refl _)]
theorem SlAt.at (h : SlAt cl m E A xs w) {i : Int} (h0 : 0 ≤ i) (h1 : i < xs.length) : ∃ b o r, xs[i.toNat]? = some r ∧ A = some ⟨b, o, none⟩ ∧ ElAt cl m E b (o + i.toNat * m) r w := by
  have hlt : i.toNat < xs.length := by omega
  rcases h with h | ⟨b, o, cs, E', fz, hA, hb, hs, hc⟩
  · subst h; simp at hlt
  · refine ⟨b, o, xs[i.toNat], List.getElem?_eq_getElem hlt, hA, cs, E', fz, hb, ?_, hc _ _ (List.getElem?_eq_getElem hlt)⟩
    have : (i.toNat + 1) * m ≤ xs.length * m := Nat.mul_le_mul_right m hlt
    rw [Nat.add_mul, Nat.one_mul] at this; omega
theorem ElAt.keeps (h : ElAt cl m E b p r w) (k : Keeps S w w') (hn : ¬ S b) : ElAt cl m E b p r w' := by
  obtain ⟨cs, E', fz, hb, h1, h2⟩ := h; exact ⟨cs, E', fz, k.heap hb hn, h1, h2⟩
theorem ElAt.adds (h : ElAt cl m E b p r w) (k : Keeps (fun _ => False) w w') : ElAt cl m E b p r w' := h.keeps k id
theorem ElAt.lt (h : ElAt cl m E b p r w) : b < w.heap.size := by obtain ⟨cs, E', fz, hb, _⟩ := h; exact lt_of_heap hb
theorem ElAt.get (h : ElAt cl m E b p r w) {j : Nat} {v : Value} (hj : j < m) (hv : (cl r)[j]? = some v) : w.cell? ⟨b, p + j, none⟩ = some v := by
  obtain ⟨cs, E', fz, hb, h1, h2⟩ := h
  refine cell_at hb _ ?_
  rw [← h2, List.getElem?_take_of_lt hj, List.getElem?_drop] at hv
  simpa using hv
theorem ElAt.ldW {P : Program} {T : TypeId} (h : ElAt cl m E b p r w) (hT : agT P T = some m := by kernel_rfl) : (loadVar T ⟨b, p, none⟩).run P w = .ok (.agg (cl r).toArray) w := by
  obtain ⟨cs, E', fz, hb, h1, h2⟩ := h
  exact ldN hb hT (Nat.ble_eq_true_of_le h1) h2
theorem ElAt.ldF {P : Program} {T : TypeId} {v : Value} {off : Nat} (h : ElAt cl m E b p r w) (hj : Nat.blt off m = true := by kernel_rfl) (hv : (cl r)[off]? = some v := by kernel_rfl) (hT : scT P T = true := by kernel_rfl) : (loadVar T ⟨b, p + off, none⟩).run P w = .ok v w := by
  have hc := h.get (by simpa [Nat.blt_eq] using hj) hv
  unfold loadVar
  simp only [Sem.run_bind, run_isAgg_sc hT, Result.andThen_ok]
  simp [load, Sem.run, hc]
theorem ElAt.ld0 {P : Program} {T : TypeId} {v : Value} (h : ElAt cl m E b p r w) (hj : Nat.blt 0 m = true := by kernel_rfl) (hv : (cl r)[0]? = some v := by kernel_rfl) (hT : scT P T = true := by kernel_rfl) : (loadVar T ⟨b, p, none⟩).run P w = .ok v w := h.ldF (off := 0) hj hv hT
theorem OwAt.nil : OwAt cl m E none 0 [] w := ⟨by simp, .inl ⟨rfl, rfl⟩⟩
theorem OwAt.block (h : OwAt cl m E A cap xs w) : (A = none ∧ cap = 0 ∧ xs = []) ∨ ∃ g cur, A = some ⟨g, 0, none⟩ ∧ w.heap[g]? = some (.cells cur E (0, 0)) ∧ xs.length ≤ cap ∧ cap ≤ maxLen ∧ cur.size = cap * m ∧ cur.toList.take (xs.length * m) = xs.flatMap cl := by
  rcases h.2 with ⟨h1, h2⟩ | ⟨g, cap', cur, h1, _, hg, h3⟩
  · simp only [Value.slice.injEq] at h1
    exact .inl ⟨h1.1, h1.2.2, List.eq_nil_of_length_eq_zero h2⟩
  · simp only [Value.slice.injEq] at h1
    obtain ⟨e1, _, e3⟩ := h1
    subst e3
    exact .inr ⟨g, cur, e1, hg, h3⟩
theorem OwAt.keeps (h : OwAt cl m E A cap xs w) (k : Keeps S w w') (hn : ∀ i, blk A = some i → ¬ S i) : OwAt cl m E A cap xs w' := by
  refine ⟨h.1, ?_⟩
  rcases h.2 with h1 | ⟨g, cap', cur, h1, h2, hg, h3⟩
  · exact .inl h1
  · refine .inr ⟨g, cap', cur, h1, h2, k.heap hg (hn g ?_), h3⟩
    simp only [Value.slice.injEq] at h1
    rw [h1.1]; rfl
theorem OwAt.adds (h : OwAt cl m E A cap xs w) (k : Keeps (fun _ => False) w w') : OwAt cl m E A cap xs w' := h.keeps k (fun _ _ x => x)
theorem OwAt.lt (h : OwAt cl m E A cap xs w) : ∀ i, blk A = some i → i < w.heap.size := fun i hi => by
  rcases h.block with ⟨rfl, _⟩ | ⟨g, cur, rfl, hg, _⟩
  · simp [blk] at hi
  · simp [blk] at hi; subst hi; exact lt_of_heap hg
theorem OwAt.off_new (h : OwAt cl m E A cap xs w) (g : w.heap.size ≤ b) : ¬ blk A = some b := fun e => absurd (h.lt b e) (Nat.not_lt.2 g)
theorem off_step (n : blk A' = blk A ∨ ∃ k, blk A' = some k ∧ w.heap.size ≤ k) (h : ¬ blk A = some b) (hl : b < w.heap.size) : ¬ blk A' = some b := fun e => by
  rcases n with n | ⟨k, n, hk⟩
  · exact h (n ▸ e)
  · rw [n] at e; cases e; omega
theorem OwAt.offT {T' : TypeId} {c : Nat} {cs : Array Value} {fz : Nat × Nat} (h : OwAt cl m E A cap xs w) (hc : w.heap[c]? = some (.cells cs T' fz)) (hT : T' ≠ E) : ¬ blk A = some c := fun e => by
  rcases h.block with ⟨rfl, _⟩ | ⟨g, cur, rfl, hg, _⟩
  · simp [blk] at e
  · simp [blk] at e; subst e
    rw [hc] at hg
    simp only [Option.some.injEq, Obj.cells.injEq] at hg
    exact hT hg.2.1
theorem OwAt.sl (hk : EK cl m E) (h : OwAt cl m E A cap xs w) : SlAt cl m E A xs w := by
  rcases h.block with ⟨_, _, h1⟩ | ⟨g, cur, rfl, hg, h1, h2, h3, h4⟩
  · exact .inl h1
  · have hl : ∀ l : List α, (l.flatMap cl).length = l.length * m := fun l => by
      induction l with
      | nil => simp
      | cons x l ih => simp [List.flatMap_cons, hk.len, ih, Nat.add_mul, Nat.add_comm]
    have hle : xs.length * m ≤ cap * m := Nat.mul_le_mul_right m h1
    refine .inr ⟨g, 0, cur, E, _, rfl, hg, by omega, fun i r hr => ?_⟩
    obtain ⟨hlt, he⟩ := List.getElem?_eq_some_iff.1 hr
    have h5 : (i + 1) * m ≤ xs.length * m := Nat.mul_le_mul_right m hlt
    rw [Nat.add_mul, Nat.one_mul] at h5
    have h6 : (cur.toList.drop (0 + i * m)).take m = ((cur.toList.take (xs.length * m)).drop (i * m)).take m := by
      rw [Nat.zero_add, List.drop_take, List.take_take, Nat.min_eq_left (by omega)]
    rw [h6, h4]
    have h7 : xs = xs.take i ++ r :: xs.drop (i + 1) := by rw [← he, ← List.drop_eq_getElem_cons hlt, List.take_append_drop]
    have h8 : ((xs.take i).flatMap cl).length = i * m := by rw [hl]; simp [Nat.min_eq_left (Nat.le_of_lt hlt)]
    rw [h7, List.flatMap_append, List.flatMap_cons, ← h8, List.drop_left, List.take_append_of_le_length (by rw [hk.len]; exact Nat.le_refl _), List.take_of_length_le (by rw [hk.len]; exact Nat.le_refl _)]
theorem run_append_nil {P : Program} {T ty : TypeId} (hT : P.underlying T = some (.slice E)) {i : TypeInfo} (hi : P.info? E = some i) (h : OwAt cl m E A cap xs w) (c : Nat) :
    (Builtin.append_ #[T, T] ty #[.slice A xs.length cap, .slice none 0 c]).run P w = .ok (.slice A xs.length cap) w := by
  rcases h.block with ⟨rfl, rfl, rfl⟩ | ⟨g, cur, rfl, hg, h1, _⟩
  · simp [Builtin.append_, run_underlying hT, sizeOf, typeInfo, hi, Builtin.lenOf, Builtin.firstCells]
  · simp [Builtin.append_, run_underlying hT, sizeOf, typeInfo, hi, Builtin.lenOf, Builtin.firstCells, h1, storeCells]
theorem olink_step {w0 : World} (ol : ∀ i, blk A = some i → w0.heap.size ≤ i) (K : Keeps S w0 w) (n : blk A' = blk A ∨ ∃ k, blk A' = some k ∧ w.heap.size ≤ k) : ∀ i, blk A' = some i → w0.heap.size ≤ i := fun i hi => by
  rcases n with e | ⟨k, e, hk⟩
  · exact ol i (e ▸ hi)
  · rw [e] at hi; cases hi; exact Nat.le_trans K.size hk
theorem run_append_sl {T ty : TypeId} (hk : EK cl m E) (hT : Tryz.prog.underlying T = some (.slice E)) (h : OwAt cl m E A cap xs w) {A2 : Option Addr} (hs : SlAt cl m E A2 ys w) (c : Nat) (hb : xs.length + ys.length ≤ 100000000000) :
    ∃ A' cap' w', (Builtin.append_ #[T, T] ty #[.slice A xs.length cap, .slice A2 ys.length c]).run Tryz.prog w = .ok (.slice A' (xs ++ ys).length cap') w' ∧ OwAt cl m E A' cap' (xs ++ ys) w' ∧ Keeps (fun k => blk A = some k) w w' ∧ (blk A' = blk A ∨ ∃ k, blk A' = some k ∧ w.heap.size ≤ k) := by
  obtain ⟨i, z, hi, hz, h1, h2, h3⟩ := hk.info
  have hl : ∀ l : List α, (l.flatMap cl).length = l.length * m := fun l => by
    induction l with
    | nil => simp
    | cons x l ih => simp [List.flatMap_cons, hk.len, ih, Nat.add_mul, Nat.add_comm]
  have core : ∀ (ad : Addr), (∀ j u, (ys.flatMap cl)[j]? = some u → w.cell? (ad.add j) = some u) → ∃ A' cap' w', (Builtin.append_ #[T, T] ty #[.slice A xs.length cap, .slice (some ad) ys.length c]).run Tryz.prog w = .ok (.slice A' (xs ++ ys).length cap') w' ∧ OwAt cl m E A' cap' (xs ++ ys) w' ∧ Keeps (fun k => blk A = some k) w w' ∧ (blk A' = blk A ∨ ∃ k, blk A' = some k ∧ w.heap.size ≤ k) := by
    intro ad hc
    have hbytes : (xs.length + ys.length) * i.bytes ≤ 140737488355328 := by
      have : (xs.length + ys.length) * i.bytes ≤ 100000000000 * 512 := Nat.mul_le_mul hb h3
      omega
    obtain ⟨v', w', hr, ho, hg, _, hn⟩ := run_append_own_at (P := Tryz.prog) w 0 T ty E i z m i.bytes hT hi hz h1 rfl h2 hk.pos _ _ _ h ad ys.length c (ys.flatMap cl) (hl ys) hc (fun u hu => by
      obtain ⟨x, _, hx⟩ := List.mem_flatMap.1 hu
      exact hk.one x u hx) (by unfold maxLen; omega) hbytes (Nat.zero_le _)
    have hown : ∀ A : Option Addr, ∀ n c : Nat, (Value.slice A n c).ownBlock = blk A := fun A n c => by cases A <;> rfl
    obtain ⟨A', cap', rfl⟩ : ∃ A' cap', v' = .slice A' (xs.length + ys.length) cap' := by
      rcases ho.2 with ⟨e, e0⟩ | ⟨g, cap', cur, e, _⟩
      · exact ⟨none, 0, by rw [e]; simp; omega⟩
      · exact ⟨_, _, e⟩
    rw [hown, hown] at hn
    refine ⟨A', cap', w', by rw [hr, List.length_append], by unfold OwAt; rw [List.length_append, List.flatMap_append]; exact ho, ⟨hg.os, hg.tape, hg.output, hg.size, fun k hk' hs' => hg.block k hk' (fun e => hs' (by rw [hown] at e; exact e.symm))⟩, ?_⟩
    rcases hn with e | e
    · exact .inl e
    · exact .inr ⟨_, e, Nat.le_refl _⟩
  rcases hs with rfl | ⟨b, o, cs, E', fz, rfl, hb', hs', hc'⟩
  · cases A2 with
    | none =>
      refine ⟨A, cap, w, ?_, by simpa using h, Keeps.refl _ _, .inl rfl⟩
      have := run_append_nil (ty := ty) hT hi h c
      simpa using this
    | some ad => exact core ad (by simp)
  · refine core _ (fun j u hj => ?_)
    have hjl : j < (ys.flatMap cl).length := (List.getElem?_eq_some_iff.1 hj).1
    rw [hl] at hjl
    have hdm := Nat.div_add_mod j m
    have hmod := Nat.mod_lt j hk.pos
    have hq : j / m < ys.length := Nat.div_lt_of_lt_mul (by rw [Nat.mul_comm]; exact hjl)
    have hel := hc' _ _ (List.getElem?_eq_getElem hq)
    have h7 : ys = ys.take (j / m) ++ ys[j / m] :: ys.drop (j / m + 1) := by rw [← List.drop_eq_getElem_cons hq, List.take_append_drop]
    have h8 : ((ys.take (j / m)).flatMap cl).length = j / m * m := by rw [hl]; simp [Nat.min_eq_left (Nat.le_of_lt hq)]
    have hj2 : (cl ys[j / m])[j % m]? = some u := by
      rw [h7, List.flatMap_append, List.flatMap_cons] at hj
      rw [List.getElem?_append_right (by rw [h8, Nat.mul_comm]; omega), h8] at hj
      have e : j - j / m * m = j % m := by rw [Nat.mul_comm]; omega
      rw [e, List.getElem?_append_left (by rw [hk.len]; exact hmod)] at hj
      exact hj
    rw [addr_add b o j]
    have hE : ElAt cl m E b (o + j / m * m) ys[j / m] w := ⟨cs, E', fz, hb', by
      have : (j / m + 1) * m ≤ ys.length * m := Nat.mul_le_mul_right m hq
      rw [Nat.add_mul, Nat.one_mul] at this; omega, hel⟩
    have := hE.get hmod hj2
    rw [show o + j / m * m + j % m = o + j by rw [Nat.mul_comm (j / m)]; omega] at this
    exact this
end
section
variable {α : Type} {cl : α → List Value} {m : Nat} {E : TypeId} {ops : Array Oper} {n : Md} {Q : Exit → Act → World → Prop} {rest : List Oper} {fr : Fr} {w : World}
theorem WL.append {T : TypeId} {x y : Operand} {A A2 : Option Addr} {cap c d : Nat} {xs ys : List α} {ty : TypeId} {ps : String} {af : Array Edge} {g : Option (Nat × Bool)} (hk : EK cl m E) (h : OwAt cl m E A cap xs w) (hs : SlAt cl m E A2 ys w) (hb : xs.length + ys.length ≤ 100000000000)
    (hT : Tryz.prog.underlying T = some (.slice E) := by kernel_rfl) (hw : want ops fr ⟨some d, .call ⟨.builtin .append, #[x, y], #[T, T]⟩, ty, ps, af, g⟩ = some true := by kernel_rfl) (hx : ev fr x = some (.slice A xs.length cap) := by kernel_rfl) (hy : ev fr y = some (.slice A2 ys.length c) := by kernel_rfl) (hn : Nat.blt d n.n = true := by kernel_rfl)
    (k : ∀ A' cap' w', OwAt cl m E A' cap' (xs ++ ys) w' → Keeps (fun k => blk A = some k) w w' → (blk A' = blk A ∨ ∃ k, blk A' = some k ∧ w.heap.size ≤ k) → WL Tryz.prog ops n Q rest ((d, .slice A' (xs ++ ys).length cap') :: fr) w') : WL Tryz.prog ops n Q (⟨some d, .call ⟨.builtin .append, #[x, y], #[T, T]⟩, ty, ps, af, g⟩ :: rest) fr w :=
  WL.wanted hw fun a ha K hK => by
    obtain ⟨A', cap', w', hr, h1, h2, h3⟩ := run_append_sl (ty := ty) hk hT h hs c hb
    unfold Oper.wp
    simp only [execOp, resolve, invoke, builtin, List.map_toArray, List.map_cons, List.map_nil, ha.eval hx, ha.eval hy, Sem.run_bind, Sem.run_pure, Result.andThen_ok, hr, Oper.upon_value]
    exact hK _ _ (k A' cap' w' h1 h2 h3 _ (ha.put hn _))
end
end Go.Proofs.YtoeinhlmkpgjhaaGreatDoor
namespace Go.Proofs.YtoeinhlmkpgjhaaGreatDoor
open Go.RowKit
set_option linter.unusedVariables false
set_option linter.unusedSimpArgs false
def cutA (A : Option Addr) (c a m : Nat) : Option Addr := if c = a then A else A.map (·.add (a * m))
section
variable {α : Type} {cl : α → List Value} {m : Nat} {E : TypeId} {A A' : Option Addr} {cap : Nat} {xs ys : List α} {w w' : World} {S : Nat → Prop} {b p o : Nat} {r : α}
theorem run_cutSl {P : Program} {T : TypeId} {lo hi mx : Option Value} {n cap a b c N C : Nat} {A' : Option Addr} (hT : P.underlying T = some (.slice E)) (hs : (P.info? E).map (·.size) = some m)
    (hmx : (mx = none ∧ c = cap) ∨ (∃ k i, mx = some (.int k i) ∧ i = (c : Int)) ∧ c ≤ cap) (hhi : (hi = none ∧ mx = none ∧ b = n) ∨ ∃ k i, hi = some (.int k i) ∧ i = (b : Int))
    (hlo : (lo = none ∧ a = 0) ∨ ∃ k i, lo = some (.int k i) ∧ i = (a : Int)) (hab : a ≤ b) (hbc : b ≤ c) (hA : cutA A c a m = A') (hN : b - a = N) (hC : c - a = C) :
    (Instr.sliceAt T (.slice A n cap) lo hi mx).run P w = .ok (.slice A' N C) w := by
  obtain ⟨j, hj, hjs⟩ := Option.map_eq_some_iff.1 hs
  have hle : (a : Int) ≤ b := by omega
  have hle2 : (b : Int) ≤ c := by omega
  subst hA hN hC
  rcases hmx with ⟨rfl, rfl⟩ | ⟨⟨k, i, rfl, rfl⟩, hc⟩ <;> rcases hhi with ⟨rfl, h1, rfl⟩ | ⟨k', i', rfl, rfl⟩ <;> rcases hlo with ⟨rfl, rfl⟩ | ⟨k'', i'', rfl, rfl⟩ <;>
    first
    | (cases h1; done)
    | (simp [Instr.sliceAt, Instr.slice, run_underlying hT, Instr.sliceBounds, Instr.sliceBound, asIntOf, sizeOf, typeInfo, hj, hjs, cutA, *])
theorem SlAt.cut {a b c : Nat} (h : SlAt cl m E A xs w) (hab : a ≤ b) (hb : b ≤ xs.length) (hbc : b ≤ c) : SlAt cl m E (cutA A c a m) ((xs.take b).drop a) w := by
  by_cases e : b = a
  · subst e; left; simp
  · rcases h with h | ⟨g, o, cs, E', fz, hA, hg, hs, hc⟩
    · subst h; simp at hb; omega
    · subst hA
      refine .inr ⟨g, o + a * m, cs, E', fz, ?_, hg, ?_, ?_⟩
      · unfold cutA; rw [if_neg (by omega)]; simp [addr_add]
      · have h1 : ((xs.take b).drop a).length = b - a := by simp; omega
        rw [h1]
        have h2 : b * m ≤ xs.length * m := Nat.mul_le_mul_right m hb
        have h3 : a * m + (b - a) * m = b * m := by rw [← Nat.add_mul]; congr 1; omega
        omega
      · intro i r hr
        rw [List.getElem?_drop] at hr
        have hlt := (List.getElem?_eq_some_iff.1 hr).1
        rw [List.getElem?_take_of_lt (by simp at hlt; omega)] at hr
        have := hc _ _ hr
        rw [show o + a * m + i * m = o + (a + i) * m by rw [Nat.add_mul]; omega]
        exact this
theorem SlAt.cutD {a c : Nat} (h : SlAt cl m E A xs w) (ha : a ≤ xs.length) (hbc : xs.length ≤ c) : SlAt cl m E (cutA A c a m) (xs.drop a) w := by
  have := h.cut ha (Nat.le_refl _) hbc
  rwa [List.take_length] at this
theorem SlAt.cell {A : Option Addr} {cap : Nat} (h : OwAt cl m E A cap xs w) : xs.length ≤ cap := by
  rcases h.block with ⟨_, rfl, rfl⟩ | ⟨g, cur, _, _, h, _⟩
  · simp
  · exact h
end
section
variable {P : Program} {ops : Array Oper} {n : Md} {Q : Exit → Act → World → Prop} {C : World → Prop} {last f : Nat} {listed : Array Bool} {fr : Fr} {w : World}
theorem WA.one {i : Nat} {o : Oper} (hi : ops[i]? = some o) (k : WL P ops n (Nxt n.R P ops Q C last f listed i) [o] fr w) : ∀ a, FrOk n fr a → wpOpIn (fz n.R) 0 P ops (Nm Q) i (fun a' w' => (listed.getD last false = false → i ≠ last → C w') ∧ AnyW n.R P .any ops Q C last f (listed.setIfInBounds i true) a' w') a w := fun a ha => by
  have h := k a ha
  unfold wpOpIn
  simp only [hi]
  simp only [wpListIn] at h
  split
  · rename_i hw
    rw [if_pos hw] at h
    exact opTo h (fun _ _ h => h.2) (fun _ _ _ h => h.1)
  · rename_i hw
    rw [if_neg hw] at h
    exact ⟨fun _ _ => trivial, h.2.2⟩
theorem WA.step2 (i j : Nat) {o q : Oper} (hr : Region.ready .any ops listed = [i, j] := by kernel_rfl) (hi : ops[i]? = some o := by kernel_rfl) (hj : ops[j]? = some q := by kernel_rfl)
    (k1 : WL P ops n (Nxt n.R P ops Q C last f listed i) [o] fr w) (k2 : WL P ops n (Nxt n.R P ops Q C last f listed j) [q] fr w) : WA P ops n Q C last (f + 1) listed fr w := fun a ha => by
  refine ⟨fun h0 => (by rw [hr] at h0; cases h0), fun x hx => ?_⟩
  rw [hr] at hx
  simp only [List.mem_cons, List.not_mem_nil, or_false] at hx
  rcases hx with rfl | rfl
  · exact WA.one hi k1 a ha
  · exact WA.one hj k2 a ha
end
section
variable {P : Program} {n : Md} {Q : Exit → Act → World → Prop} {fr : Fr} {w : World}
theorem stepR_scope {b : Frame} {a : Act} {k : List Item} {cs : List Frame} {c : Code} : step P (lone (b.atR a (.code (.scope c) :: k)) cs w) = .next (lone (b.atR a (.code c :: .inScope c :: k)) cs w) :=
  step_lone_go (by simp [stepG, stepG.exec, Frame.atR])
theorem stepR_inScope {b : Frame} {a : Act} {k : List Item} {cs : List Frame} {c : Code} : step P (lone (b.atR a (.inScope c :: k)) cs w) = .next (lone (b.atR a k) cs w) :=
  step_lone_go (by simp [stepG, stepG.exec, Frame.atR])
theorem wpIn_scope {F : Fence} {m : Nat} {c : Code} {a : Act} (h : c.wpIn F m P (Exit.noGoto Q) a w) : (Code.scope c).wpIn F m P Q a w := by
  intro b k cs hro hb hr
  have h0 : (lone (b.atR a (.code (.scope c) :: k)) cs w).fenced P F := fenced_calm hb hr rfl
  obtain ⟨e, a₁, w₁, hq, harr⟩ := h b (.inScope c :: k) cs hro hb hr
  cases e with
  | normal => exact ⟨.normal, a₁, w₁, hq, .head h0 stepR_scope (StepsIn.trans harr (.one (fenced_calm hb hr rfl) stepR_inScope))⟩
  | exit id =>
    have hx : exitTo id (.inScope c :: k) = exitTo id k := by simp [exitTo]
    exact ⟨.exit id, a₁, w₁, hq, fun k' hk => .head h0 stepR_scope (harr.1 k' (by rw [hx]; exact hk)),
      fun hr' hk => let ⟨k₁, h1, h2⟩ := harr.2 hr' (by rw [hx]; exact hk); ⟨k₁, h1, .head h0 stepR_scope h2⟩⟩
  | goto l => exact hq.elim
  | ret => exact ⟨_, a₁, w₁, hq, .of_steps (.one h0 stepR_scope) harr⟩
  | panic ch => exact ⟨_, a₁, w₁, hq, .of_steps (.one h0 stepR_scope) harr⟩
  | outgrown => exact ⟨_, a₁, w₁, hq, .of_steps (.one h0 stepR_scope) harr⟩
theorem WC.scope {c : Code} (h : WC P n (Exit.noGoto Q) c fr w) : WC P n Q (.scope c) fr w := fun a ha => wpIn_scope (h a ha)
theorem WX.scopeR (h : WX n Q .ret fr w) : WX n (Exit.noGoto Q) .ret fr w := h
end
theorem OwAt.offOw {α β : Type} {cl : α → List Value} {cl' : β → List Value} {m m' : Nat} {E E' : TypeId} {A A' : Option Addr} {cap cap' : Nat} {xs : List α} {ys : List β} {w : World} (h : OwAt cl m E A cap xs w) (h' : OwAt cl' m' E' A' cap' ys w) (hE : E ≠ E') : ∀ i, blk A = some i → ¬ blk A' = some i := fun i hi e => by
  rcases h.block with ⟨rfl, _⟩ | ⟨g, cur, rfl, hg, _⟩
  · simp [blk] at hi
  · simp only [blk, Option.map_some, Option.some.injEq] at hi
    subst hi
    exact h'.offT hg hE e
end Go.Proofs.YtoeinhlmkpgjhaaGreatDoor
namespace Go.Proofs.YtoeinhlmkpgjhaaGreatDoor
open Go.RowKit
set_option linter.unusedVariables false
set_option linter.unusedSimpArgs false
section
variable {α : Type} {cl : α → List Value} {m : Nat} {E : TypeId} {A : Option Addr} {cap : Nat} {xs : List α} {w w' : World}
theorem EK.flat (hk : EK cl m E) : ∀ l : List α, (l.flatMap cl).length = l.length * m
  | [] => by simp
  | x :: l => by simp [List.flatMap_cons, hk.len, EK.flat hk l, Nat.add_mul, Nat.add_comm]
theorem oneC_of (hone : ∀ x, ∀ u ∈ cl x, u.oneCell' = true) (x : α) (h : ∀ u : Value, u.oneCell' = true → oneC u = true) : (cl x).all oneC = true := List.all_eq_true.2 fun u hu => h u (hone x u hu)
theorem oneC_of' (u : Value) (h : u.oneCell' = true) : oneC u = true := by cases u <;> simp_all [oneC, Value.oneCell']
theorem OwAt.set {T : TypeId} (hk : EK cl m E) (h : OwAt cl m E A cap xs w) {b o : Nat} (hA : A = some ⟨b, o, none⟩) {i : Int} (h0 : 0 ≤ i) (h1 : i < xs.length) (x : α) (hT : (Tryz.prog.info? T).map (·.size) = some m) :
    ∃ w', (storeVar T ⟨b, o + i.toNat * m, none⟩ (.agg (cl x).toArray)).run Tryz.prog w = .ok () w' ∧ OwAt cl m E A cap (xs.set i.toNat x) w' ∧ Keeps (fun k => blk A = some k) w w' := by
  rcases h.block with ⟨rfl, _⟩ | ⟨g, cur, rfl, hg, h2, h3, h4, h5⟩
  · cases hA
  · cases hA
    have hi : i.toNat < xs.length := by omega
    have hle : (i.toNat + 1) * m ≤ xs.length * m := Nat.mul_le_mul_right m hi
    rw [Nat.add_mul, Nat.one_mul] at hle
    have hle2 : xs.length * m ≤ cap * m := Nat.mul_le_mul_right m h2
    obtain ⟨w', hr, hb', hkp⟩ := run_storeCells (P := Tryz.prog) (i := 0 + i.toNat * m) (cl x) 0 w cur hg (by rw [hk.len]; omega) (oneC_of hk.one x oneC_of')
    obtain ⟨j, hj, hjs⟩ := Option.map_eq_some_iff.1 hT
    refine ⟨w', ?_, ⟨by rw [EK.flat hk, List.length_set], .inr ⟨b, cap, _, by rw [List.length_set], Nat.zero_le _, hb', by rw [List.length_set]; exact h2, h3, ?_, ?_⟩⟩, hkp.mono fun k _ e => by simp [blk, e]⟩
    · have hsz : (Value.agg (cl x).toArray).cells.size = m := by simp [Value.cells, hk.len]
      unfold storeVar
      simp [sizeOf, typeInfo, hj, hjs, Value.cells, hk.len, hr]
      simpa using hr
    · unfold repl
      simp only [List.size_toArray, List.length_append, List.length_take, List.length_drop, hk.len, Array.length_toList]
      omega
    · unfold repl
      have hx : xs = xs.take i.toNat ++ xs[i.toNat] :: xs.drop (i.toNat + 1) := by rw [← List.drop_eq_getElem_cons hi, List.take_append_drop]
      have hlt : ((xs.take i.toNat).flatMap cl).length = i.toNat * m := by rw [EK.flat hk]; simp [Nat.min_eq_left (Nat.le_of_lt hi)]
      have ht : cur.toList.take (i.toNat * m) = (xs.take i.toNat).flatMap cl := by
        have : cur.toList.take (i.toNat * m) = (cur.toList.take (xs.length * m)).take (i.toNat * m) := by rw [List.take_take, Nat.min_eq_left (by omega)]
        rw [this, h5]
        conv => lhs; rw [hx, List.flatMap_append]
        rw [← hlt, List.take_left]
      have hd : (cur.toList.drop (i.toNat * m + m)).take (xs.length * m - (i.toNat * m + m)) = (xs.drop (i.toNat + 1)).flatMap cl := by
        rw [← List.drop_take, h5]
        conv => lhs; rw [hx, List.flatMap_append, List.flatMap_cons, ← List.append_assoc]
        have : ((xs.take i.toNat).flatMap cl ++ cl xs[i.toNat]).length = i.toNat * m + m := by rw [List.length_append, hlt, hk.len]
        rw [← this, List.drop_left]
      have hs : xs.set i.toNat x = xs.take i.toNat ++ x :: xs.drop (i.toNat + 1) := by rw [List.set_eq_take_append_cons_drop, if_pos hi]
      rw [List.length_set, hs, List.flatMap_append, List.flatMap_cons, hk.len]
      simp only [Nat.zero_add, Nat.add_zero]
      rw [ht, List.take_append, List.take_of_length_le (show ((xs.take i.toNat).flatMap cl).length ≤ xs.length * m by rw [hlt]; omega), hlt, List.take_append, List.take_of_length_le (show (cl x).length ≤ xs.length * m - i.toNat * m by rw [hk.len]; omega), hk.len, ← hd, Nat.sub_sub]
theorem OwAt.cutO (h : OwAt cl m E A cap xs w) (hk : EK cl m E) {n : Nat} (hn : n ≤ xs.length) : OwAt cl m E A cap (xs.take n) w := by
  rcases h.block with ⟨rfl, rfl, rfl⟩ | ⟨g, cur, rfl, hg, h2, h3, h4, h5⟩
  · rw [List.take_nil]; exact OwAt.nil
  · have hle : n * m ≤ xs.length * m := Nat.mul_le_mul_right m hn
    have hl : (xs.take n).length = n := by simp [hn]
    refine ⟨by rw [EK.flat hk], .inr ⟨g, cap, cur, rfl, Nat.zero_le _, hg, by rw [hl]; omega, h3, h4, ?_⟩⟩
    have hlt : ((xs.take n).flatMap cl).length = n * m := by rw [EK.flat hk, hl]
    have hx : xs.flatMap cl = (xs.take n).flatMap cl ++ (xs.drop n).flatMap cl := by rw [← List.flatMap_append, List.take_append_drop]
    have : cur.toList.take (n * m) = (cur.toList.take (xs.length * m)).take (n * m) := by rw [List.take_take, Nat.min_eq_left hle]
    rw [hl, this, h5, hx, ← hlt, List.take_left]
theorem OwAt.clear {T ty : TypeId} (hk : EK cl m E) (hT : Tryz.prog.underlying T = some (.slice E)) (h : OwAt cl m E A cap xs w) {i : Nat} (hi : i ≤ xs.length) {z : Value} (hz1 : z.cells.toList.all oneC = true) (hz2 : (Tryz.prog.info? E).map (·.zero) = some (some z)) (hz3 : z.cells.size = m) :
    ∃ w', (Builtin.clear_ #[T] ty #[.slice (cutA A cap i m) (xs.length - i) (cap - i)]).run Tryz.prog w = .ok (.tuple #[]) w' ∧ OwAt cl m E A cap (xs.take i) w' ∧ Keeps (fun k => blk A = some k) w w' := by
  by_cases hn : xs.length - i = 0
  · refine ⟨w, ?_, h.cutO hk hi, Keeps.refl _ _⟩
    rw [hn]
    cases hA : cutA A cap i m <;> simp [Builtin.clear_, run_underlying hT]
  · rcases h.block with ⟨rfl, rfl, rfl⟩ | ⟨g, cur, rfl, hg, h2, h3, h4, h5⟩
    · simp at hn
    · have hne : ¬ cap = i := by omega
      have hA : cutA (some ⟨g, 0, none⟩) cap i m = some ⟨g, 0 + i * m, none⟩ := by unfold cutA; rw [if_neg hne]; simp [addr_add]
      rw [hA]
      obtain ⟨inf, hinf, hzz⟩ := Option.map_eq_some_iff.1 hz2
      have hall : ∀ k : Nat, (Builtin.zeroCells z.cells k).toList.all oneC = true := fun k => by
        refine List.all_eq_true.2 fun u hu => ?_
        have : u ∈ z.cells.toList := by
          unfold Builtin.zeroCells at hu
          simp at hu
          simp
          obtain ⟨q, hq, rfl⟩ := hu
          rw [getElem!_pos z.cells _ (Nat.mod_lt _ (by have := hk.pos; omega))]
          exact Array.getElem_mem _
        exact List.all_eq_true.1 hz1 u this
      have hle : xs.length * m ≤ cap * m := Nat.mul_le_mul_right m h2
      have hsz : (Builtin.zeroCells z.cells (xs.length - i)).toList.length = (xs.length - i) * m := by simp [size_zeroCells, hz3]
      have hsum : i * m + (xs.length - i) * m = xs.length * m := by rw [← Nat.add_mul, Nat.add_sub_cancel' hi]
      obtain ⟨w', hr, hb', hkp⟩ := run_storeCells (P := Tryz.prog) (i := 0 + i * m) (Builtin.zeroCells z.cells (xs.length - i)).toList 0 w cur hg (by rw [hsz]; omega) (hall _)
      obtain ⟨nn, hnn⟩ : ∃ nn, xs.length - i = nn + 1 := ⟨xs.length - i - 1, by omega⟩
      have hl : (xs.take i).length = i := by simp [hi]
      refine ⟨w', ?_, ⟨by rw [EK.flat hk], .inr ⟨g, cap, _, rfl, Nat.zero_le _, hb', by rw [hl]; omega, h3, ?_, ?_⟩⟩, hkp.mono fun k _ e => by simp [blk, e]⟩
      · rw [hnn] at hr ⊢
        simp only [Nat.zero_add] at hr
        simp [Builtin.clear_, run_underlying hT, zeroValue, typeInfo, hinf, hzz, hr]
      · unfold repl
        simp only [List.size_toArray, List.length_append, List.length_take, List.length_drop, hsz, Array.length_toList]
        omega
      · unfold repl
        have hlt : ((xs.take i).flatMap cl).length = i * m := by rw [EK.flat hk, hl]
        have him : i * m ≤ xs.length * m := Nat.mul_le_mul_right m hi
        have hx : xs.flatMap cl = (xs.take i).flatMap cl ++ (xs.drop i).flatMap cl := by rw [← List.flatMap_append, List.take_append_drop]
        have ht : cur.toList.take (i * m) = (xs.take i).flatMap cl := by
          have : cur.toList.take (i * m) = (cur.toList.take (xs.length * m)).take (i * m) := by rw [List.take_take, Nat.min_eq_left him]
          rw [this, h5, hx, ← hlt, List.take_left]
        simp only [Nat.zero_add, Nat.add_zero]
        rw [hl, ht, ← hlt, List.take_left]
end
section
variable {P : Program} {ops : Array Oper} {n : Md} {Q : Exit → Act → World → Prop} {rest : List Oper} {fr : Fr} {w : World}
theorem WL.clear {T : TypeId} {x : Operand} {vx : Value} {w' : World} {ty : TypeId} {ps : String} {af : Array Edge} {g : Option (Nat × Bool)} (hr : (Builtin.clear_ #[T] ty #[vx]).run P w = .ok (.tuple #[]) w')
    (hw : want ops fr ⟨none, .call ⟨.builtin .clear, #[x], #[T]⟩, ty, ps, af, g⟩ = some true := by kernel_rfl) (hx : ev fr x = some vx := by kernel_rfl)
    (k : WL P ops n Q rest fr w') : WL P ops n Q (⟨none, .call ⟨.builtin .clear, #[x], #[T]⟩, ty, ps, af, g⟩ :: rest) fr w :=
  WL.wanted hw fun a ha K hK => by
    unfold Oper.wp
    simp only [execOp, resolve, invoke, builtin, List.map_toArray, List.map_cons, List.map_nil, ha.eval hx, Sem.run_bind, Sem.run_pure, Result.andThen_ok, hr, Oper.upon_value]
    exact hK _ _ (k _ ha)
end
section
variable {P : Program} {ops : Array Oper} {n : Md} {Q : Exit → Act → World → Prop} {rest : List Oper} {fr : Fr} {w : World} {C : World → Prop} {Z : Act → Prop}
theorem run_strAt {T : TypeId} {l : List UInt8} {kk : IntKind} {i : Int} (hT : P.underlying T = some .string) (h0 : 0 ≤ i) (h1 : i < l.length) :
    (Instr.index T (.string ⟨l.toArray⟩) (.int kk i)).run P w = .ok (.int .u8 ((l.getD i.toNat 0).toNat : Int)) w := by
  have hs : (⟨l.toArray⟩ : ByteArray).size = l.length := rfl
  have hlt : i.toNat < l.length := by omega
  have hg : (⟨l.toArray⟩ : ByteArray)[i.toNat]? = some (l.getD i.toNat 0) := by
    rw [getElem?_pos (⟨l.toArray⟩ : ByteArray) i.toNat (show i.toNat < (⟨l.toArray⟩ : ByteArray).size from hlt)]
    show some (l.toArray[i.toNat]'hlt) = _
    simp [List.getD, hlt]
  simp [Instr.index, asIntOf, run_underlying hT, h0, hg]
theorem WL.strAt {T : TypeId} {l : List UInt8} {d : Nat} {kk : IntKind} {i : Int} {x y : Operand} {ty : TypeId} {ps : String} {af : Array Edge} {g : Option (Nat × Bool)} (h0 : 0 ≤ i) (h1 : i < l.length) (hT : P.underlying T = some .string := by kernel_rfl)
    (hw : want ops fr ⟨some d, .index T x y, ty, ps, af, g⟩ = some true := by kernel_rfl) (hx : ev fr x = some (.string ⟨l.toArray⟩) := by kernel_rfl) (hy : ev fr y = some (.int kk i) := by kernel_rfl) (hn : Nat.blt d n.n = true := by kernel_rfl)
    (k : WL P ops n Q rest ((d, .int .u8 ((l.getD i.toNat 0).toNat : Int)) :: fr) w) : WL P ops n Q (⟨some d, .index T x y, ty, ps, af, g⟩ :: rest) fr w :=
  WL.wanted hw fun a ha K hK => by
    unfold Oper.wp
    simp only [execOp, ha.eval hx, ha.eval hy, Sem.run_bind, run_strAt hT h0 h1, Result.andThen_ok, Sem.run_pure, Oper.upon_value]
    exact hK _ _ (k _ (ha.put hn _))
theorem WQ.strAt {T : TypeId} {l : List UInt8} {d : Nat} {kk : IntKind} {i : Int} {x y : Operand} {ty : TypeId} {ps : String} {af : Array Edge} {g : Option (Nat × Bool)} (h0 : 0 ≤ i) (h1 : i < l.length) (hT : P.underlying T = some .string := by kernel_rfl)
    (hw : want ops fr ⟨some d, .index T x y, ty, ps, af, g⟩ = some true := by kernel_rfl) (hx : ev fr x = some (.string ⟨l.toArray⟩) := by kernel_rfl) (hy : ev fr y = some (.int kk i) := by kernel_rfl) (hn : Nat.blt d n.n = true := by kernel_rfl)
    (k : WQ P ops n C Z rest ((d, .int .u8 ((l.getD i.toNat 0).toNat : Int)) :: fr)) : WQ P ops n C Z (⟨some d, .index T x y, ty, ps, af, g⟩ :: rest) fr :=
  WQ.wanted hw fun a ha K hK => ⟨_, fun w _ => by
    unfold Oper.quietAt
    simp only [execOp, ha.eval hx, ha.eval hy, Sem.run_bind, run_strAt hT h0 h1, Result.andThen_ok, Sem.run_pure, Oper.quietUpon, and_self], hK _ (k _ (ha.put hn _))⟩
end
end Go.Proofs.YtoeinhlmkpgjhaaGreatDoor
namespace Go.Proofs.YtoeinhlmkpgjhaaGreatDoor
open Go.RowKit
set_option linter.unusedVariables false
set_option linter.unusedSimpArgs false
abbrev Rec (fn : FuncId) (tmps : Array Value) (ps : Array Tmp) (asg body : Code) (D : Nat) : LoopState → Option Code → Obj := fun st pe => .loop { state := st, pending := pe, fn := fn, tmps := tmps, params := ps, assign := asg, body := body, defers := D }
theorem Keeps.putObj {w : World} {l : Nat} {o o' : Obj} (h : w.heap[l]? = some o) : Keeps (fun k => k = l) w (w.putObj l o') ∧ (w.putObj l o').heap[l]? = some o' :=
  ⟨⟨rfl, rfl, rfl, by simp, fun k _ hk => World.putObj_heap_other hk⟩, World.putObj_heap_same (lt_of_heap h)⟩
def Ylds (P : Program) (l : Nat) (args : Array Value) (w : World) (R : Ending → World → Prop) : Prop :=
  ∃ fn tmps asg body, (Instr.yield l args).run P w = .ok (.round l fn tmps asg body) w ∧ RoundIn Fence.wide 0 P l fn tmps asg body w R
theorem Ylds.mono {P : Program} {l : Nat} {args : Array Value} {w : World} {R R' : Ending → World → Prop} (h : Ylds P l args w R) (hr : ∀ e w, R e w → R' e w) : Ylds P l args w R' := by
  obtain ⟨fn, tmps, asg, body, hy, hR⟩ := h
  exact ⟨fn, tmps, asg, body, hy, hR.mono hr⟩
section
variable {P : Program} {ops : Array Oper} {n : Md} {Q : Exit → Act → World → Prop} {rest : List Oper} {fr : Fr} {w : World}
theorem WL.yield {l : Nat} {gx : Operand} {xs : Array Operand} {ats : Array TypeId} {args : Array Value} {R : Ending → World → Prop} {d : Nat} {ty : TypeId} {ps : String} {af : Array Edge} {g : Option (Nat × Bool)} (hY : Ylds P l args w R)
    (hw : want ops fr ⟨some d, .call ⟨.value gx, xs, ats⟩, ty, ps, af, g⟩ = some true := by kernel_rfl) (hg : ev fr gx = some (.func (.yield l) #[] #[]) := by kernel_rfl) (he : evs fr xs.toList = some args.toList := by kernel_rfl) (hn : Nat.blt d n.n = true := by kernel_rfl)
    (k : ∀ e w', R e w' → ∃ v, e = .returned v ∧ WL P ops n Q rest ((d, v) :: fr) w') : WL P ops n Q (⟨some d, .call ⟨.value gx, xs, ats⟩, ty, ps, af, g⟩ :: rest) fr w := by
  intro a ha
  refine wpListIn_step fun K hK => ?_
  rw [ha.want hw, if_pos rfl]
  refine ⟨fun _ _ => trivial, ?_⟩
  rw [Oper.semAt_eq _ _ _ (by simp)]
  have hargs : xs.map a.eval = args := by
    apply Array.ext'
    simpa using ha.evs he
  obtain ⟨fn, tmps, asg, body, hy, hR⟩ := hY
  have hr : (execOp a.eval ⟨some d, .call ⟨.value gx, xs, ats⟩, ty, ps, af, g⟩).run P w = .ok (.round l fn tmps asg body) w := by
    simp only [execOp, resolve, ha.eval hg, Deferred.ofValue, hargs, Sem.run_bind, Sem.run_pure, Result.andThen_ok, invoke, Array.empty_append, Array.append_empty, hy]
  rw [hr]
  refine ⟨fun h => by simp [Fence.wide] at h, RoundIn.mono hR fun e w' he => ?_⟩
  obtain ⟨v, rfl, h⟩ := k e w' he
  exact hK _ _ (h _ (ha.put hn _))
abbrev mkd (D : Nat) : Deferred := { target := .collected D, args := #[] }
def RangeEnd (P : Program) (n : Md) (Q : Exit → Act → World → Prop) (fr : Fr) (l D : Nat) : Ending → World → Prop := fun e w => ∃ v r, e = .returned v ∧ w.heap[l]? = some (.loop r) ∧ r.state ≠ .busy ∧
  (∀ w', Keeps (fun k => k = l) w w' →
    (r.pending = none ∧ WX ⟨n.n, none, [mkd D]⟩ Q .normal fr w') ∨ (∃ c, r.pending = some c ∧ WC P ⟨n.n, none, [mkd D]⟩ Q c fr w'))
theorem WC.range {m : Nat} {gx : Operand} {ps : Array Tmp} {asg body : Code} {gf : FuncId} {lb : Array Value} (hg : ev fr gx = some (.func (.func gf) #[] lb) := by kernel_rfl) (he : ∀ args w, (callFunc gf args).run P w = .ok (.enter gf args) w)
    (h : ∀ (fn : FuncId) (tmps : Array Value) (rec : LoopState → Option Code → Obj) (l D : Nat) (w1 : World), rec = Rec fn tmps ps asg body D → w.heap.size ≤ D → w.heap.size ≤ l → D ≠ l → Adds w w1 → FrOk ⟨m, some l, []⟩ fr ⟨tmps, []⟩ → w1.heap[D]? = some (.deferred (some [])) → w1.heap[l]? = some (rec .ready none) →
      Calls P gf (#[.func (.yield l) #[] #[]] ++ lb) w1 (RangeEnd P ⟨m, none, []⟩ Q fr l D)) : WC P ⟨m, none, []⟩ Q (.rangeFunc gx ps asg body) fr w := by
  intro a ha
  refine wpIn_rangeFunc fun fn _ => ?_
  have hd : a.defers = [] := ha.defers
  have hL := World.alloc_heap_new (w.alloc (.deferred (some []))) (Rec fn a.tmps ps asg body w.heap.size .ready none)
  rw [World.size_alloc] at hL
  have hK : ((w.alloc (.deferred (some []))).alloc (Rec fn a.tmps ps asg body w.heap.size .ready none)).heap[w.heap.size]? = some (.deferred (some [])) := (Below.heap_alloc _ _ _ (by simp)).trans (World.alloc_heap_new w _)
  have hA : Adds w ((w.alloc (.deferred (some []))).alloc (Rec fn a.tmps ps asg body w.heap.size .ready none)) := ((Keeps.refl _ w).alloc _).alloc _
  have hE := run_enterLoop_outer (P := P) (w := w) fn a.tmps ps asg body
  obtain ⟨W1, hW1⟩ : ∃ W1, (w.alloc (.deferred (some []))).alloc (Rec fn a.tmps ps asg body w.heap.size .ready none) = W1 := ⟨_, rfl⟩
  rw [hW1] at hL hK hA hE
  refine ⟨w.heap.size + 1, [mkd w.heap.size], W1, { target := .fn (.func gf) lb, args := #[.func (.yield (w.heap.size + 1)) #[] #[]] }, W1, gf, #[.func (.yield (w.heap.size + 1)) #[] #[]] ++ lb, W1, hE, ?_, fun _ _ => trivial, ?_, fun h => by simp [Fence.wide] at h, ?_⟩
  · simp only [resolve, ha.eval hg]
    simp [go_sem]
  · simp [invoke, go_sem, he]
  · refine calls_fz ((h fn a.tmps _ (w.heap.size + 1) w.heap.size _ rfl (Nat.le_refl _) (by omega) (by omega) hA ⟨rfl, ha.size, ha.val⟩ hK hL).mono ?_)
    rintro e w3 ⟨v, ⟨st, pe, f1, t1, p1, a1, b1, d1⟩, rfl, hl, hb, hk⟩
    have hk := hk _ (Keeps.putObj (o' := .loop ⟨.exhausted, pe, f1, t1, p1, a1, b1, d1⟩) hl).1
    have ha' : FrOk ⟨m, none, [mkd w.heap.size]⟩ fr { a with defers := [mkd w.heap.size] ++ a.defers } := ⟨by simp [hd], ha.size, ha.val⟩
    refine ⟨pe, _, run_endLoop hl hb, ?_⟩
    rcases hk with ⟨hp, hx⟩ | ⟨c, hp, hx⟩
    · simp only at hp; subst hp; exact hx _ ha'
    · simp only at hp; subst hp; exact hx _ ha'
def bindF : List Tmp → List Value → Fr → Fr
  | t :: ts, v :: vs, fr => bindF ts vs ((t, v) :: fr)
  | _, _, fr => fr
theorem FrOk.binds {n : Md} (hn0 : n.D = []) : ∀ {ts : List Tmp} {vs : List Value} {fr : Fr} {tmps : Array Value}, ts.all (fun t => Nat.blt t n.n) = true → FrOk n fr ⟨tmps, []⟩ → FrOk n (bindF ts vs fr) ⟨(ts.zip vs).foldl (fun tmps (t, a) => tmps.setIfInBounds t a) tmps, []⟩
  | [], _, fr, tmps, _, h => by simpa [bindF] using h
  | t :: ts, [], fr, tmps, _, h => by simpa [bindF] using h
  | t :: ts, v :: vs, fr, tmps, ht, h => by
    simp only [List.all_cons, Bool.and_eq_true] at ht
    have h1 := h.put (d := t) ht.1 v
    have h2 := FrOk.binds (vs := vs) (tmps := tmps.setIfInBounds t v) hn0 ht.2 (by simpa [Act.put] using h1)
    simpa [bindF] using h2
def Beg (P : Program) (l : Nat) (body : Code) (R : Ending → World → Prop) : Exit → Act → World → Prop :=
  Exit.then (fun a1 w1 => ∃ w2, (Instr.beginRound l).run P w1 = .ok () w2 ∧ body.wpIn (fz (some l)) 0 P (roundPost P l R) a1 w2) (fun _ _ _ => False)
section
variable {m l D : Nat} {fn : FuncId} {tmps args : Array Value} {ps : Array Tmp} {asg body body' : Code} {R : Ending → World → Prop} {rec : LoopState → Option Code → Obj} {st : LoopState} {pe : Option Code}
theorem Ylds.mk (hrec : rec = Rec fn tmps ps asg body D) (hl : w.heap[l]? = some (rec .ready none)) (hF : FrOk ⟨m, some l, []⟩ fr ⟨tmps, []⟩)
    (hb : ps.size = args.size := by kernel_rfl) (hp : ps.toList.all (fun t => Nat.blt t m) = true := by kernel_rfl)
    (k : WC P ⟨m, some l, []⟩ (Beg P l body R) asg (bindF ps.toList args.toList fr) w) : Ylds P l args w R := by
  subst hrec
  have h2 := FrOk.binds (vs := args.toList) (n := ⟨m, some l, []⟩) rfl hp hF
  refine ⟨_, _, _, _, run_yield hl hb.symm, ?_⟩
  have h3 := roundIn_of_wpIn (F := Fence.wide) (l := l) (f := fn) (R := R) trivial (k _ h2)
  rw [← Array.foldl_toList, Array.toList_zip]
  exact h3
theorem WX.begin (hrec : rec = Rec fn tmps ps asg body D) (hl : w.heap[l]? = some (rec .ready none))
    (k : ∀ w2, w2.heap[l]? = some (rec .busy none) → Keeps (fun k => k = l) w w2 → WC P ⟨m, some l, []⟩ (roundPost P l R) body' fr w2) : WX ⟨m, some l, []⟩ (Beg P l body' R) .normal fr w := by
  subst hrec
  exact fun a ha => ⟨_, run_beginRound hl rfl, k _ (Keeps.putObj hl).2 (Keeps.putObj hl).1 a ha⟩
end
theorem WC.rounds {c : Code} (m : Nat) (h : WC P n (Exit.then (Code.roundsIn (fz n.R) 0 P c Q m) Q) c fr w) : WC P n Q (.loop c) fr w := fun a ha => wpIn_loop_rounds (m + 1) (h a ha)
theorem WX.more {c : Code} {m : Nat} (h : WC P n (Exit.then (Code.roundsIn (fz n.R) 0 P c Q m) Q) c fr w) : WX n (Exit.then (Code.roundsIn (fz n.R) 0 P c Q (m + 1)) Q) .normal fr w := fun a ha => h a ha
theorem Calls.startM {f : FuncId} {fn : Func} {c : Code} {args : Array Value} {R : Ending → World → Prop} (hf : P.funcs[f]? = some fn) (hb : fn.body = some c) (hn : Nat.ble args.size fn.ntmps = true)
    (h : WC P ⟨fn.ntmps, none, []⟩ (bodyPostM Fence.wide 0 P fn R) c (fr0 0 args.toList) w) : Calls P f args w R := by
  refine (callsIn_wide (n := 0)).1 (callsIn_of_wp_marks hf hb trivial (h _ ⟨rfl, by have := Nat.le_of_ble_eq_true hn; simp; omega, fun t v ht => ?_⟩))
  obtain ⟨_, h2⟩ := look_fr0 _ _ _ _ ht
  have h3 : args[t]? = some v := by simpa using h2
  have hlt : t < args.size := (Array.getElem?_eq_some_iff.1 h3).1
  simp [Array.getElem?_append_left hlt, h3]
end
section
variable {P : Program} {ops : Array Oper} {Q : Exit → Act → World → Prop} {C : World → Prop}
def Closed (ops : Array Oper) (listed : Array Bool) : Prop := ∀ (j : Nat) (oj : Oper), ops[j]? = some oj → listed.getD j false = true → ∀ e ∈ oj.after, Region.binds .any e = true → listed.getD e.on false = true
theorem Closed.set {listed : Array Bool} {j : Nat} {oj : Oper} (hc : Closed ops listed) (hj : ops[j]? = some oj) (ha : ∀ e ∈ oj.after, Region.binds .any e = true → listed.getD e.on false = true) : Closed ops (listed.setIfInBounds j true) := fun t ot ht hl e he hb => by
  have up : ∀ u, listed.getD u false = true → (listed.setIfInBounds j true).getD u false = true := fun u hu => by
    simp only [Array.getD_eq_getD_getElem?, Array.getElem?_setIfInBounds] at *
    split
    · split
      · rfl
      · next h => subst_vars; rw [Array.getElem?_eq_none (by omega)] at hu; exact hu
    · exact hu
  by_cases e2 : j = t
  · subst e2; rw [hj] at ht; cases ht; exact up _ (ha e he hb)
  · rw [getDf_set e2] at hl; exact up _ (hc t ot ht hl e he hb)
end
end Go.Proofs.YtoeinhlmkpgjhaaGreatDoor
namespace Go.Proofs.YtoeinhlmkpgjhaaGreatDoor
open Go.RowKit
set_option linter.unusedVariables false
set_option linter.unusedSimpArgs false
section
variable {P : Program} {ops : Array Oper} {n : Md} {Q : Exit → Act → World → Prop} {rest : List Oper} {fr : Fr} {w : World}
theorem WL.defer {m : Nat} {D : List Deferred} {gx : Operand} {xs : Array Operand} {ats : Array TypeId} {fn : Fn} {cap args : Array Value} {ty : TypeId} {ps : String} {af : Array Edge} {g : Option (Nat × Bool)}
    (hw : want ops fr ⟨none, .defer ⟨.value gx, xs, ats⟩, ty, ps, af, g⟩ = some true := by kernel_rfl) (hg : ev fr gx = some (.func fn #[] cap) := by kernel_rfl) (he : evs fr xs.toList = some args.toList := by kernel_rfl)
    (k : WL P ops ⟨m, none, ⟨.fn fn cap, args⟩ :: D⟩ Q rest fr w) : WL P ops ⟨m, none, D⟩ Q (⟨none, .defer ⟨.value gx, xs, ats⟩, ty, ps, af, g⟩ :: rest) fr w := by
  intro a ha
  refine wpListIn_step fun K hK => ?_
  rw [ha.want hw, if_pos rfl]
  have hargs : xs.map a.eval = args := by
    apply Array.ext'
    simpa using ha.evs he
  have hr : (execOp a.eval ⟨none, .defer ⟨.value gx, xs, ats⟩, ty, ps, af, g⟩).run P w = .ok (.defer ⟨.fn fn cap, args⟩) w := by
    simp only [execOp, resolve, ha.eval hg, Deferred.ofValue, hargs, Sem.run_bind, Sem.run_pure, Result.andThen_ok, Array.empty_append]
  refine ⟨fun _ _ => trivial, ?_⟩
  rw [show (fz (none : Option Nat)).round = none from rfl, Oper.semAt_none, hr]
  exact hK _ _ (k _ ⟨by rw [ha.defers]; rfl, ha.size, ha.val⟩)
def CallsDf (P : Program) (f : FuncId) (args : Array Value) (w : World) (R : Ending → World → Prop) : Prop :=
  CallsDIn Fence.wide 0 P f args .returning w fun e u' w' => u' = .returning ∧ R e w'
theorem CallsDf.start {f : FuncId} {fn : Func} {c : Code} {args : Array Value} {R : Ending → World → Prop} (hf : P.funcs[f]? = some fn) (hb : fn.body = some c) (hn : Nat.ble args.size fn.ntmps = true)
    (h : WC P ⟨fn.ntmps, none, []⟩ (bodyPost P fn R) c (fr0 0 args.toList) w) : CallsDf P f args w R := by
  refine callsDIn_of_wp hf hb trivial (h _ ⟨rfl, by have := Nat.le_of_ble_eq_true hn; simp; omega, fun t v ht => ?_⟩)
  obtain ⟨_, h2⟩ := look_fr0 _ _ _ _ ht
  have h3 : args[t]? = some v := by simpa using h2
  have hlt : t < args.size := (Array.getElem?_eq_some_iff.1 h3).1
  simp [Array.getElem?_append_left hlt, h3]
theorem WX.retD {m : Nat} {fn : Func} {R R' : Ending → World → Prop} {rs : List ResultVar} {g : FuncId} {cap args : Array Value} (hi : CF P g) (hc : CallsDf P g (args ++ cap) w R')
    (k : ∀ e w', R' e w' → ∃ u vs v, e = .returned u ∧ RV P fr w' rs vs ∧ tup vs = v ∧ R (.returned v) w') (hf : fn.results = rs.toArray := by rfl) : WX ⟨m, none, [⟨.fn (.func g) cap, args⟩]⟩ (bodyPostM Fence.wide 0 P fn R) .ret fr w := fun a ha => by
  show LeavesInM Fence.wide 0 P fn a.tmps R a.defers .returning w
  rw [ha.defers]
  refine ⟨by simp, .inr ⟨fun h => by simp [Fence.wide] at h, .func g, cap, g, args ++ cap, rfl, ?_, fun _ _ => trivial, ?_⟩⟩
  · simp only [invoke]; exact hi _ _
  · refine CallsDIn.mono hc ?_
    rintro e u' w' ⟨rfl, h⟩
    obtain ⟨u, vs, v, rfl, hv, ht, hR⟩ := k e w' h
    exact ⟨v, RV.results ha hf hv v ht, hR⟩
end
end Go.Proofs.YtoeinhlmkpgjhaaGreatDoor
namespace Go.Proofs.YtoeinhlmkpgjhaaGreatDoor
open Go.RowKit
set_option linter.unusedVariables false
set_option linter.unusedSimpArgs false
section
variable {P : Program} {ops : Array Oper} {n : Md} {Q : Exit → Act → World → Prop} {rest : List Oper} {fr : Fr} {w : World}
theorem WL.callGP {f : FuncId} {o : Oper} {args : Array Value} {R : Ending → World → Prop} (hc : Calls P f args w R) (hw : want ops fr o = some true := by kernel_rfl) (hs : okOps fr o = true := by kernel_rfl) (hr : (execOp (evf fr) o).run P w = .ok (.enter f args) w := by kernel_rfl)
    (k : ∀ e w', R e w' → ∃ ch, e = .panicked ch ∧ WX n Q (.panic ch) fr w') : WL P ops n Q (o :: rest) fr w :=
  WL.wanted hw fun a ha K hK => by
    unfold Oper.wp
    rw [ha.exec hs, hr, Oper.upon_enter]
    refine hc.mono fun e w' hR => ?_
    obtain ⟨ch, rfl, h⟩ := k e w' hR
    exact h a ha
theorem WL.panicV {o : Oper} (v : Value) (hw : want ops fr o = some true := by kernel_rfl) (hs : okOps fr o = true := by kernel_rfl) (hr : (execOp (evf fr) o).run P w = .halt (.panic v) w := by kernel_rfl)
    (k : WX n Q (.panic [{ v, recovered := false }]) fr w) : WL P ops n Q (o :: rest) fr w :=
  WL.wanted hw fun a ha K hK => by
    unfold Oper.wp
    rw [ha.exec hs, hr]
    exact k a ha
theorem WX.seqP {K : Act → World → Prop} {ch : List PanicEntry} (h : WX n Q (.panic ch) fr w) : WX n (Exit.then K Q) (.panic ch) fr w := h
theorem WX.blockP {id : Nat} {ch : List PanicEntry} (h : WX n Q (.panic ch) fr w) : WX n (Exit.inBlock id Q) (.panic ch) fr w := h
theorem WX.scopeP {ch : List PanicEntry} (h : WX n Q (.panic ch) fr w) : WX n (Exit.noGoto Q) (.panic ch) fr w := h
theorem WX.pan {fn : Func} {R : Ending → World → Prop} {ch : List PanicEntry} (k : R (.panicked ch) w) (hD : n.D = [] := by rfl) : WX n (bodyPost P fn R) (.panic ch) fr w :=
  fun a ha => ⟨ha.defers.trans hD, k⟩
theorem WX.panD {m : Nat} {fn : Func} {R R' : Ending → World → Prop} {rs : List ResultVar} {g : FuncId} {cap args : Array Value} {ch : List PanicEntry} (hi : CF P g) (hc : CallsDIn Fence.wide 0 P g (args ++ cap) (.panicking ch) w fun e u' w' => settle u' = .returning ∧ R' e w')
    (k : ∀ e w', R' e w' → ∃ u vs v, e = .returned u ∧ RV P fr w' rs vs ∧ tup vs = v ∧ R (.returned v) w') (hf : fn.results = rs.toArray := by rfl) : WX ⟨m, none, [⟨.fn (.func g) cap, args⟩]⟩ (bodyPostM Fence.wide 0 P fn R) (.panic ch) fr w := fun a ha => by
  show LeavesInM Fence.wide 0 P fn a.tmps R a.defers (.panicking ch) w
  rw [ha.defers]
  refine ⟨by simp, .inr ⟨fun h => by simp [Fence.wide] at h, .func g, cap, g, args ++ cap, rfl, ?_, fun _ _ => trivial, ?_⟩⟩
  · simp only [invoke]; exact hi _ _
  · refine CallsDIn.mono hc ?_
    rintro e u' w' ⟨hu, h⟩
    obtain ⟨u, vs, v, rfl, hv, ht, hR⟩ := k e w' h
    show LeavesInM Fence.wide 0 P fn a.tmps R [] (settle u') w'
    rw [hu]
    exact ⟨v, RV.results ha hf hv v ht, hR⟩
theorem WL.rangeS {T : TypeId} {x : Operand} {d : Nat} {l : List UInt8} {ty : TypeId} {ps : String} {af : Array Edge} {g : Option (Nat × Bool)} (hT : P.underlying T = some .string)
    (hw : want ops fr ⟨some d, .range T x, ty, ps, af, g⟩ = some true := by kernel_rfl) (he : ev fr x = some (.string ⟨l.toArray⟩) := by kernel_rfl) (hn : Nat.blt d n.n = true := by kernel_rfl)
    (k : ∀ (b : Nat) (w' : World), w.heap.size ≤ b → w'.heap[b]? = some (.stringIter ⟨l.toArray⟩ 0) → Adds w w' → WL P ops n Q rest ((d, .pointer (some ⟨b, 0, none⟩)) :: fr) w') : WL P ops n Q (⟨some d, .range T x, ty, ps, af, g⟩ :: rest) fr w :=
  WL.wanted hw fun a ha K hK => by
    unfold Oper.wp
    simp only [execOp, ha.eval he, run_range_string w T _ hT, Sem.run_bind, Sem.run_pure, Result.andThen_ok, Oper.upon_value]
    exact hK _ _ (k _ _ (Nat.le_refl _) (World.iter_heap w _ 0) ((Keeps.refl _ w).alloc _) _ (ha.put hn _))
theorem run_next_b {b pos : Nat} {l : List UInt8} {ty : TypeId} (hb : w.heap[b]? = some (.stringIter ⟨l.toArray⟩ pos)) (h : pos < l.length) : ∃ w', (Instr.next (.pointer (some ⟨b, 0, none⟩)) true ty).run P w = .ok (.tuple #[.bool true, .int .i64 pos, .int .i32 (Utf8.decode ⟨l.toArray⟩ pos).1]) w' ∧ w'.heap[b]? = some (.stringIter ⟨l.toArray⟩ (pos + (Utf8.decode ⟨l.toArray⟩ pos).2)) ∧ Keeps (fun k => k = b) w w' := by
  have hs : pos < (⟨l.toArray⟩ : ByteArray).size := h
  have hlt := lt_of_heap hb
  refine ⟨{ w with heap := w.heap.setIfInBounds b (.stringIter ⟨l.toArray⟩ (pos + (Utf8.decode ⟨l.toArray⟩ pos).2)) }, ?_, ?_, ?_⟩
  · simp only [Instr.next, getObj, setObj, Sem.run_bind, Sem.run, hb, Result.andThen, hs, if_true]
    simp [goInt]
  · simp [hlt]
  · exact ⟨rfl, rfl, rfl, by simp, fun k _ hk => by
      show (w.heap.setIfInBounds b _)[k]? = _
      exact Array.getElem?_setIfInBounds_ne (Ne.symm hk)⟩
theorem run_next_b0 {b pos : Nat} {l : List UInt8} {ty : TypeId} (hb : w.heap[b]? = some (.stringIter ⟨l.toArray⟩ pos)) (h : ¬ pos < l.length) : (Instr.next (.pointer (some ⟨b, 0, none⟩)) true ty).run P w = .ok (.tuple #[.bool false]) w := by
  have hs : ¬ pos < (⟨l.toArray⟩ : ByteArray).size := h
  simp [Instr.next, getObj, Sem.run, hb, hs]
theorem WL.nextS {x : Operand} {d b pos : Nat} {l : List UInt8} {ty : TypeId} {ps : String} {af : Array Edge} {g : Option (Nat × Bool)} (hb : w.heap[b]? = some (.stringIter ⟨l.toArray⟩ pos)) (h : pos < l.length)
    (hw : want ops fr ⟨some d, .next x true, ty, ps, af, g⟩ = some true := by kernel_rfl) (he : ev fr x = some (.pointer (some ⟨b, 0, none⟩)) := by kernel_rfl) (hn : Nat.blt d n.n = true := by kernel_rfl)
    (k : ∀ w' : World, w'.heap[b]? = some (.stringIter ⟨l.toArray⟩ (pos + (Utf8.decode ⟨l.toArray⟩ pos).2)) → Keeps (fun k => k = b) w w' → WL P ops n Q rest ((d, .tuple #[.bool true, .int .i64 pos, .int .i32 (Utf8.decode ⟨l.toArray⟩ pos).1]) :: fr) w') : WL P ops n Q (⟨some d, .next x true, ty, ps, af, g⟩ :: rest) fr w :=
  WL.wanted hw fun a ha K hK => by
    obtain ⟨w', hr, hb', hk⟩ := run_next_b (P := P) (ty := ty) hb h
    unfold Oper.wp
    simp only [execOp, ha.eval he, hr, Sem.run_bind, Sem.run_pure, Result.andThen_ok, Oper.upon_value]
    exact hK _ _ (k w' hb' hk _ (ha.put hn _))
theorem WL.nextS0 {x : Operand} {d b pos : Nat} {l : List UInt8} {ty : TypeId} {ps : String} {af : Array Edge} {g : Option (Nat × Bool)} (hb : w.heap[b]? = some (.stringIter ⟨l.toArray⟩ pos)) (h : ¬ pos < l.length)
    (hw : want ops fr ⟨some d, .next x true, ty, ps, af, g⟩ = some true := by kernel_rfl) (he : ev fr x = some (.pointer (some ⟨b, 0, none⟩)) := by kernel_rfl) (hn : Nat.blt d n.n = true := by kernel_rfl)
    (k : WL P ops n Q rest ((d, .tuple #[.bool false]) :: fr) w) : WL P ops n Q (⟨some d, .next x true, ty, ps, af, g⟩ :: rest) fr w :=
  WL.wanted hw fun a ha K hK => by
    unfold Oper.wp
    simp only [execOp, ha.eval he, run_next_b0 (P := P) (ty := ty) hb h, Sem.run_bind, Sem.run_pure, Result.andThen_ok, Oper.upon_value]
    exact hK _ _ (k _ (ha.put hn _))
end
section
variable {P : Program} {ops : Array Oper} {n : Md} {Q : Exit → Act → World → Prop} {f : Nat} {listed : Array Bool} {fr : Fr} {w : World}
def WB (P : Program) (ops : Array Oper) (n : Md) (Q : Exit → Act → World → Prop) (f : Nat) (listed : Array Bool) (fr : Fr) (w : World) : Prop := ∀ a, FrOk n fr a → wpAnyIn (fz n.R) 0 P .any ops Q f listed a w
theorem opThen {F : Fence} {m : Nat} {o : Oper} {a : Act} {K K2 : Act → World → Prop} (h : o.wpIn F m P a w K (Exit.then K2 Q)) : o.wpIn F m P a w K Q := by
  refine ⟨h.1, ?_⟩
  have h := h.2
  generalize (o.semAt F.round a.eval).run P w = r at *
  cases r with
  | ok x w' =>
    cases x <;> simp only [Oper.uponIn] at h ⊢
    case value u => exact h
    case skip => exact h
    case defer d => exact h
    case enter f args =>
      refine ⟨h.1, CallsIn.mono h.2 (fun e w'' he => ?_)⟩
      cases e with
      | returned u => exact he
      | panicked c => exact he
      | outgrown => exact he
    case row f args => exact ⟨h.1, RowsIn.mono h.2 (fun u w'' he => he)⟩
    case round l f ts asg b =>
      refine ⟨h.1, RoundIn.mono h.2 (fun e w'' he => ?_)⟩
      cases e with
      | returned u => exact he
      | panicked c => exact he
      | outgrown => exact he
  | halt x w' =>
    cases x <;> simp only [Oper.uponIn] at h ⊢
    exact h
theorem wb_op {a : Act} {i : Nat} {o : Oper} {K : Act → World → Prop} (hi : ops[i]? = some o) (h : wpListIn (fz n.R) 0 P ops (Exit.then K Q) [o] a w) : wpOpIn (fz n.R) 0 P ops Q i K a w := by
  unfold wpOpIn
  simp only [hi]
  simp only [wpListIn] at h
  split
  · rename_i hw
    rw [if_pos hw] at h
    exact opThen h
  · rename_i hw
    rw [if_neg hw] at h
    exact ⟨fun _ _ => trivial, h.2⟩
def NxtO (R0 : Option Nat) (P : Program) (ops : Array Oper) (Q : Exit → Act → World → Prop) (f : Nat) (listed : Array Bool) (i : Nat) : Exit → Act → World → Prop := Exit.then (fun a w => wpAnyIn (fz R0) 0 P .any ops Q f (listed.setIfInBounds i true) a w) Q
theorem WB.step1 (i : Nat) {o : Oper} (hr : Region.ready .any ops listed = [i] := by kernel_rfl) (hi : ops[i]? = some o := by kernel_rfl)
    (k : WL P ops n (NxtO n.R P ops Q f listed i) [o] fr w) : WB P ops n Q (f + 1) listed fr w := fun a ha => by
  refine ⟨fun h0 => (by rw [hr] at h0; cases h0), fun j hj => ?_⟩
  rw [hr] at hj
  have hji : j = i := by simpa using hj
  subst hji
  exact wb_op hi (k a ha)
theorem WB.step2 (i j : Nat) {oi oj : Oper} (hr : Region.ready .any ops listed = [i, j] := by kernel_rfl) (hi : ops[i]? = some oi := by kernel_rfl) (hj : ops[j]? = some oj := by kernel_rfl)
    (k1 : WL P ops n (NxtO n.R P ops Q f listed i) [oi] fr w) (k2 : WL P ops n (NxtO n.R P ops Q f listed j) [oj] fr w) : WB P ops n Q (f + 1) listed fr w := fun a ha => by
  refine ⟨fun h0 => (by rw [hr] at h0; cases h0), fun m hm => ?_⟩
  rw [hr] at hm
  rcases (by simpa using hm : m = i ∨ m = j) with h | h
  · subst h; exact wb_op hi (k1 a ha)
  · subst h; exact wb_op hj (k2 a ha)
theorem WX.nxtO {i : Nat} (k : WB P ops n Q f (listed.setIfInBounds i true) fr w) : WX n (NxtO n.R P ops Q f listed i) .normal fr w := fun a ha => k a ha
theorem WX.nxtP {i : Nat} {ch : List PanicEntry} (h : WX n Q (.panic ch) fr w) : WX n (NxtO n.R P ops Q f listed i) (.panic ch) fr w := h
theorem WB.done (hr : Region.ready .any ops listed = [] := by kernel_rfl) (k : WX n Q .normal fr w) : WB P ops n Q 0 listed fr w := fun a ha => ⟨hr, k a ha⟩
theorem WC.orders {id : Nat} {l : List Oper} (hm : P.follows .mixedOrders = true := by kernel_rfl) (k : ∀ w1, Adds w w1 → WB P l.toArray n Q l.length (Array.replicate l.length false) fr w1) : WC P n Q (.region id l.toArray true) fr w := fun a ha => by
  refine wpIn_region_any hm ?_
  have h := k { w with drawn := w.drawn + 1 } ((Keeps.refl _ w).drew) a ha
  simpa using h
end
end Go.Proofs.YtoeinhlmkpgjhaaGreatDoor
namespace Go.Proofs.YtoeinhlmkpgjhaaGreatDoor
open Go.RowKit
set_option linter.unusedVariables false
set_option linter.unusedSimpArgs false
theorem u8_lt (c : UInt8) : c.toNat < 256 := c.toNat_lt
def digB (c : UInt8) : Bool := decide (48 ≤ c.toNat) && decide (c.toNat ≤ 57)
def dvS (n : Nat) (c : UInt8) : Nat := n * 10 + (c.toNat - 48)
def dv (l : List UInt8) : Nat := l.foldl dvS 0
def numP (l : List UInt8) : Prop := l ≠ [] ∧ ¬ (1 < l.length ∧ l.getD 0 0 = 48) ∧ (∀ c ∈ l, digB c = true) ∧ dv l ≤ 2147483648
instance (l : List UInt8) : Decidable (numP l) := by unfold numP; infer_instance
def numV (l : List UInt8) : Nat := if numP l then dv l else 0
theorem numV_le (l : List UInt8) : numV l ≤ 2147483648 := by
  unfold numV
  split
  · next h => exact h.2.2.2
  · exact Nat.zero_le _
theorem num_yes {l : List UInt8} (h : numP l) : decide (numP l) = true ∧ numV l = dv l := ⟨decide_eq_true h, if_pos h⟩
theorem num_no {l : List UInt8} (h : ¬ numP l) : decide (numP l) = false ∧ numV l = 0 := ⟨decide_eq_false h, if_neg h⟩
theorem dvS_le (l : List UInt8) : ∀ n, n ≤ l.foldl dvS n := by
  induction l with
  | nil => exact fun n => Nat.le_refl _
  | cons c l ih => exact fun n => Nat.le_trans (by unfold dvS; omega) (ih (dvS n c))
theorem dv_take (l : List UInt8) (p : Nat) : dv (l.take p) ≤ dv l := by
  have h : dv l = (l.drop p).foldl dvS (dv (l.take p)) := by
    unfold dv
    rw [← List.foldl_append, List.take_append_drop]
  rw [h]; exact dvS_le _ _
theorem dv_succ {l : List UInt8} {p : Nat} (h : p < l.length) : dv (l.take (p + 1)) = dv (l.take p) * 10 + (l[p].toNat - 48) := by
  unfold dv
  rw [List.take_succ_eq_append_getElem h, List.foldl_append]; rfl
theorem rune_at {l : List UInt8} {p : Nat} (h : p < l.length) : (digB l[p] = true ∧ (Utf8.decode ⟨l.toArray⟩ p).1 = l[p].toNat ∧ (Utf8.decode ⟨l.toArray⟩ p).2 = 1) ∨ (digB l[p] = false ∧ ((Utf8.decode ⟨l.toArray⟩ p).1 < 48 ∨ 57 < (Utf8.decode ⟨l.toArray⟩ p).1)) := by
  have hs : p < (⟨l.toArray⟩ : ByteArray).size := h
  have e : (⟨l.toArray⟩ : ByteArray)[p]'hs = l[p] := rfl
  by_cases ha : l[p].toNat < 128
  · have hd := decode_ascii ⟨l.toArray⟩ p hs (by rw [e]; exact ha)
    rw [e] at hd
    rw [hd]
    by_cases hg : digB l[p] = true
    · exact .inl ⟨hg, rfl, rfl⟩
    · refine .inr ⟨by simpa using hg, ?_⟩
      unfold digB at hg
      simp only [Bool.and_eq_true, decide_eq_true_eq] at hg
      simp only
      omega
  · have hd := decode_high ⟨l.toArray⟩ p hs (by rw [e]; omega)
    refine .inr ⟨?_, .inr (by omega)⟩
    unfold digB
    simp only [Bool.and_eq_false_iff, decide_eq_false_iff_not]
    omega
theorem not_num_at {l : List UInt8} {p : Nat} (h : p < l.length) (hd : digB l[p] = false) : ¬ numP l := fun k => by
  have := k.2.2.1 _ (List.getElem_mem h)
  rw [hd] at this; cases this
theorem all_succ {l : List UInt8} {p : Nat} (h : p < l.length) (ha : ∀ c ∈ l.take p, digB c = true) (hd : digB l[p] = true) : ∀ c ∈ l.take (p + 1), digB c = true := by
  rw [List.take_succ_eq_append_getElem h]
  intro c hc
  rcases List.mem_append.1 hc with hc | hc
  · exact ha c hc
  · rw [List.mem_singleton.1 hc]; exact hd
end Go.Proofs.YtoeinhlmkpgjhaaGreatDoor
namespace Go.Proofs
open Go.Shelf
def Tryz.lays156_ren : Go.Shelf.Ren := ⟨fun | 156 => 38 | 165 => 61 | 166 => 41 | 169 => 42 | 240 => 62 | 241 => 75 | 276 => 76 | 277 => 88 | n => n, fun | 31 => 43 | 9 => 9 | 3 => 3 | 4 => 4 | 0 => 0 | 20 => 20 | 72 => 76 | 76 => 79 | 70 => 73 | 37 => 74 | 75 => 78 | 127 => 99 | 164 => 112 | 5 => 5 | 80 => 81 | n => n, fun | n => n⟩
theorem Tryz.lays156 : Go.Proofs.Lays.n156 Tryz.prog Tryz.lays156_ren := {
  mixed := by kernel_rfl
  f156 := Tryz.func38.trans (congrArg some (by kernel_rfl))
  f165 := Tryz.func61.trans (congrArg some (by kernel_rfl))
  f166 := Tryz.func41.trans (congrArg some (by kernel_rfl))
  f169 := Tryz.func42.trans (congrArg some (by kernel_rfl))
  f240 := Tryz.func62.trans (congrArg some (by kernel_rfl))
  f241 := Tryz.func75.trans (congrArg some (by kernel_rfl))
  f276 := Tryz.func76.trans (congrArg some (by kernel_rfl))
  f277 := Tryz.func88.trans (congrArg some (by kernel_rfl))
  t0 := Tryz.underlying0
  a0 := Tryz.isAgg0
  z0 := Tryz.sizeOf0
  v0 := Tryz.zeroValue0
  t3 := Tryz.underlying3
  a3 := Tryz.isAgg3
  z3 := Tryz.sizeOf3
  v3 := Tryz.zeroValue3
  t4 := Tryz.underlying4
  a4 := Tryz.isAgg4
  z4 := Tryz.sizeOf4
  v4 := Tryz.zeroValue4
  t9 := Tryz.underlying9
  a9 := Tryz.isAgg9
  z9 := Tryz.sizeOf9
  v9 := Tryz.zeroValue9
  t20 := Tryz.underlying20
  a20 := Tryz.isAgg20
  z20 := Tryz.sizeOf20
  v20 := Tryz.zeroValue20
  t31 := Tryz.underlying43
  a31 := Tryz.isAgg43
  z31 := Tryz.sizeOf43
  v31 := Tryz.zeroValue43
  t37 := Tryz.underlying74
  a37 := Tryz.isAgg74
  z37 := Tryz.sizeOf74
  v37 := Tryz.zeroValue74
  t70 := Tryz.underlying73
  a70 := Tryz.isAgg73
  z70 := Tryz.sizeOf73
  v70 := Tryz.zeroValue73
  t72 := Tryz.underlying76
  a72 := Tryz.isAgg76
  z72 := Tryz.sizeOf76
  v72 := Tryz.zeroValue76
  t75 := Tryz.underlying78
  a75 := Tryz.isAgg78
  z75 := Tryz.sizeOf78
  v75 := Tryz.zeroValue78
  t76 := Tryz.underlying79
  a76 := Tryz.isAgg79
  z76 := Tryz.sizeOf79
  v76 := Tryz.zeroValue79
  t127 := Tryz.underlying99
  a127 := Tryz.isAgg99
  z127 := Tryz.sizeOf99
  v127 := Tryz.zeroValue99
  t164 := Tryz.underlying112
  a164 := Tryz.isAgg112
  z164 := Tryz.sizeOf112
  v164 := Tryz.zeroValue112 }
theorem Tryz.Builder_Extra_156 : Builder.Extra Tryz.prog Tryz.lays156_ren := {
  sizeBuilder := by kernel_rfl
  liesBuilder := by kernel_rfl
  t5 := Tryz.underlying5
  a5 := Tryz.isAgg5
  z5 := Tryz.sizeOf5
  v5 := Tryz.zeroValue5
  infoByte := by kernel_rfl
  cellsByte := by kernel_rfl
  sizeByte := by kernel_rfl
  neB5 := by decide }
open Go.RowKit in
theorem Tryz.strings_Join_none (a : Option Addr) (c : Nat) (sep : ByteArray) (w : World) :
    Calls Tryz.prog 38 #[.slice a 0 c, .string sep] w fun e w' => e = .returned (.string ⟨#[]⟩) ∧ w' = w := Any.strings_Join_none Tryz.lays156 Tryz.Builder_Extra_156 a c sep w
open Go.RowKit in
theorem Tryz.strings_Join (bk o c : Nat) (xs : List ByteArray) (sep : ByteArray) (w : World) (hcells : ∀ (j : Nat) x, xs[j]? = some x → w.cell? ⟨bk, o + j, none⟩ = some (.string x)) (hbk : bk < w.heap.size) (hN : xs.length ≤ 140737488355328) (hcap : xs.length ≤ c) (hlen : (Lib.join (xs.map (·.data.toList)) sep.data.toList).length ≤ 140737488355328) :
    Calls Tryz.prog 38 #[.slice (some ⟨bk, o, none⟩) xs.length c, .string sep] w fun e w' => e = .returned (.string ⟨(Lib.join (xs.map (·.data.toList)) sep.data.toList).toArray⟩) ∧ Below w.heap.size w w' := Any.strings_Join Tryz.lays156 Tryz.Builder_Extra_156 bk o c xs sep w hcells hbk hN hcap hlen
def Tryz.laysM173_ren : Go.Shelf.Ren := ⟨fun | 173 => 60 | 246 => 74 | 283 => 84 | 284 => 85 | 285 => 86 | 286 => 87 | 129 => 93 | 317 => 92 | 318 => 94 | 319 => 95 | 320 => 96 | 337 => 97 | 338 => 98 | n => n, fun | 2 => 2 | 3 => 3 | 9 => 9 | 4 => 4 | 171 => 131 | 0 => 0 | 53 => 132 | 37 => 74 | 5 => 5 | 173 => 135 | 212 => 142 | 51 => 138 | 20 => 20 | 213 => 143 | 46 => 119 | 232 => 151 | 233 => 152 | n => n, fun | 17 => 1 | 18 => 4 | 19 => 5 | n => n⟩
theorem Tryz.laysM173 : Go.Proofs.LaysM.n173 Tryz.prog Tryz.laysM173_ren := {
  mixed := by kernel_rfl
  f129 := Tryz.func93.trans (congrArg some (by kernel_rfl))
  f173 := Tryz.func60.trans (congrArg some (by kernel_rfl))
  f246 := Tryz.func74.trans (congrArg some (by kernel_rfl))
  f283 := Tryz.func84.trans (congrArg some (by kernel_rfl))
  f284 := Tryz.func85.trans (congrArg some (by kernel_rfl))
  f285 := Tryz.func86.trans (congrArg some (by kernel_rfl))
  f286 := Tryz.func87.trans (congrArg some (by kernel_rfl))
  f317 := Tryz.func92.trans (congrArg some (by kernel_rfl))
  f318 := Tryz.func94.trans (congrArg some (by kernel_rfl))
  f319 := Tryz.func95.trans (congrArg some (by kernel_rfl))
  f320 := Tryz.func96.trans (congrArg some (by kernel_rfl))
  f337 := Tryz.func97.trans (congrArg some (by kernel_rfl))
  f338 := Tryz.func98.trans (congrArg some (by kernel_rfl))
  t0 := Tryz.underlying0
  a0 := Tryz.isAgg0
  z0 := Tryz.sizeOf0
  v0 := Tryz.zeroValue0
  t2 := Tryz.underlying2
  a2 := Tryz.isAgg2
  z2 := Tryz.sizeOf2
  v2 := Tryz.zeroValue2
  t3 := Tryz.underlying3
  a3 := Tryz.isAgg3
  z3 := Tryz.sizeOf3
  v3 := Tryz.zeroValue3
  t4 := Tryz.underlying4
  a4 := Tryz.isAgg4
  z4 := Tryz.sizeOf4
  v4 := Tryz.zeroValue4
  t5 := Tryz.underlying5
  a5 := Tryz.isAgg5
  z5 := Tryz.sizeOf5
  v5 := Tryz.zeroValue5
  t9 := Tryz.underlying9
  a9 := Tryz.isAgg9
  z9 := Tryz.sizeOf9
  v9 := Tryz.zeroValue9
  t20 := Tryz.underlying20
  a20 := Tryz.isAgg20
  z20 := Tryz.sizeOf20
  v20 := Tryz.zeroValue20
  t37 := Tryz.underlying74
  a37 := Tryz.isAgg74
  z37 := Tryz.sizeOf74
  v37 := Tryz.zeroValue74
  t46 := Tryz.underlying119
  a46 := Tryz.isAgg119
  z46 := Tryz.sizeOf119
  v46 := Tryz.zeroValue119
  t51 := Tryz.underlying138
  a51 := Tryz.isAgg138
  z51 := Tryz.sizeOf138
  v51 := Tryz.zeroValue138
  t53 := Tryz.underlying132
  a53 := Tryz.isAgg132
  z53 := Tryz.sizeOf132
  v53 := Tryz.zeroValue132
  t171 := Tryz.underlying131
  a171 := Tryz.isAgg131
  z171 := Tryz.sizeOf131
  v171 := Tryz.zeroValue131
  t173 := Tryz.underlying135
  a173 := Tryz.isAgg135
  z173 := Tryz.sizeOf135
  v173 := Tryz.zeroValue135
  t212 := Tryz.underlying142
  a212 := Tryz.isAgg142
  z212 := Tryz.sizeOf142
  v212 := Tryz.zeroValue142
  t213 := Tryz.underlying143
  a213 := Tryz.isAgg143
  z213 := Tryz.sizeOf143
  t232 := Tryz.underlying151
  a232 := Tryz.isAgg151
  z232 := Tryz.sizeOf151
  v232 := Tryz.zeroValue151
  t233 := Tryz.underlying152
  a233 := Tryz.isAgg152
  z233 := Tryz.sizeOf152
  v233 := Tryz.zeroValue152
  g17 := by kernel_rfl
  g18 := by kernel_rfl
  g19 := by kernel_rfl
  i0 := by kernel_rfl
  i2 := by kernel_rfl
  i3 := by kernel_rfl
  i4 := by kernel_rfl
  i5 := by kernel_rfl
  i9 := by kernel_rfl
  i20 := by kernel_rfl
  i37 := by kernel_rfl
  i46 := by kernel_rfl
  i51 := by kernel_rfl
  i53 := by kernel_rfl
  i171 := by kernel_rfl
  i173 := by kernel_rfl
  i212 := by kernel_rfl
  i232 := by kernel_rfl
  i233 := by kernel_rfl
  m17 := by kernel_rfl
  m18 := by kernel_rfl
  m19 := by kernel_rfl }
open Go.RowKit Go.Sort Go.Lib in
theorem Tryz.strconv_FormatInt_10 (n : Int) (h0 : -9223372036854775808 ≤ n) (h1 : n ≤ 9223372036854775807) (w : World) (htab : Lib.TabIs Tryz.prog w "internal/strconv.uint64pow10" .u64 Lib.pow10Tab) :
    Calls Tryz.prog 60 #[.int .i64 n, .int .i64 10] w fun e w' => e = .returned (.string ⟨(Lib.itoa n).toArray⟩) ∧ ∃ k os, w' = grow (w.drewN k) os := Any.strconv_FormatInt_10 Tryz.laysM173 n h0 h1 w htab
def Tryz.lays145_ren : Go.Shelf.Ren := ⟨fun | 145 => 28 | 220 => 53 | 219 => 69 | 217 => 80 | 225 => 81 | 224 => 82 | 267 => 83 | 266 => 90 | 314 => 91 | n => n, fun | 9 => 9 | 4 => 4 | 59 => 57 | 3 => 3 | 5 => 5 | 46 => 119 | 146 => 139 | 51 => 138 | n => n, fun | 1 => 0 | n => n⟩
theorem Tryz.lays145 : Go.Proofs.Lays.n145 Tryz.prog Tryz.lays145_ren := {
  mixed := by kernel_rfl
  f145 := Tryz.func28.trans (congrArg some (by kernel_rfl))
  f217 := Tryz.func80.trans (congrArg some (by kernel_rfl))
  f219 := Tryz.func69.trans (congrArg some (by kernel_rfl))
  f220 := Tryz.func53.trans (congrArg some (by kernel_rfl))
  f224 := Tryz.func82.trans (congrArg some (by kernel_rfl))
  f225 := Tryz.func81.trans (congrArg some (by kernel_rfl))
  f266 := Tryz.func90.trans (congrArg some (by kernel_rfl))
  f267 := Tryz.func83.trans (congrArg some (by kernel_rfl))
  f314 := Tryz.func91.trans (congrArg some (by kernel_rfl))
  t3 := Tryz.underlying3
  a3 := Tryz.isAgg3
  z3 := Tryz.sizeOf3
  v3 := Tryz.zeroValue3
  t4 := Tryz.underlying4
  a4 := Tryz.isAgg4
  z4 := Tryz.sizeOf4
  v4 := Tryz.zeroValue4
  t5 := Tryz.underlying5
  a5 := Tryz.isAgg5
  z5 := Tryz.sizeOf5
  v5 := Tryz.zeroValue5
  t9 := Tryz.underlying9
  a9 := Tryz.isAgg9
  z9 := Tryz.sizeOf9
  v9 := Tryz.zeroValue9
  t46 := Tryz.underlying119
  a46 := Tryz.isAgg119
  z46 := Tryz.sizeOf119
  v46 := Tryz.zeroValue119
  t51 := Tryz.underlying138
  a51 := Tryz.isAgg138
  z51 := Tryz.sizeOf138
  v51 := Tryz.zeroValue138
  t59 := Tryz.underlying57
  a59 := Tryz.isAgg57
  z59 := Tryz.sizeOf57
  v59 := Tryz.zeroValue57
  t146 := Tryz.underlying139
  a146 := Tryz.isAgg139
  z146 := Tryz.sizeOf139
  v146 := Tryz.zeroValue139
  g1 := by kernel_rfl }
open Go.RowKit Go.Lib in
theorem Tryz.strings_Cut (s sep : ByteArray) (m : Int) (w : World) (hs : s.size < 4294967281) (hm : w.cell? ⟨0, 0, none⟩ = some (.int .i64 m)) :
    Calls Tryz.prog 28 #[.string s, .string sep] w fun e w' => e = .returned (.tuple #[.string ⟨(Lib.cut s.data.toList sep.data.toList).1.toArray⟩, .string ⟨(Lib.cut s.data.toList sep.data.toList).2.1.toArray⟩, .bool (Lib.cut s.data.toList sep.data.toList).2.2]) ∧ ∃ n, w' = w.drewN n := Any.strings_Cut Tryz.lays145 s sep m w hs hm
def Tryz.lays146_ren : Go.Shelf.Ren := ⟨fun | 146 => 20 | 221 => 43 | 268 => 63 | 138 => 64 | 143 => 65 | 195 => 77 | 197 => 78 | 218 => 79 | 219 => 69 | 260 => 89 | 217 => 80 | 225 => 81 | 224 => 82 | 267 => 83 | 266 => 90 | 314 => 91 | n => n, fun | 9 => 9 | 31 => 43 | 3 => 3 | 4 => 4 | 0 => 0 | 105 => 115 | 21 => 21 | 5 => 5 | 46 => 119 | 119 => 146 | 139 => 149 | 138 => 148 | 146 => 139 | 51 => 138 | n => n, fun | 1 => 0 | 3 => 2 | 4 => 3 | n => n⟩
theorem Tryz.lays146 : Go.Proofs.Lays.n146 Tryz.prog Tryz.lays146_ren := {
  mixed := by kernel_rfl
  f138 := Tryz.func64.trans (congrArg some (by kernel_rfl))
  f143 := Tryz.func65.trans (congrArg some (by kernel_rfl))
  f146 := Tryz.func20.trans (congrArg some (by kernel_rfl))
  f195 := Tryz.func77.trans (congrArg some (by kernel_rfl))
  f197 := Tryz.func78.trans (congrArg some (by kernel_rfl))
  f217 := Tryz.func80.trans (congrArg some (by kernel_rfl))
  f218 := Tryz.func79.trans (congrArg some (by kernel_rfl))
  f219 := Tryz.func69.trans (congrArg some (by kernel_rfl))
  f221 := Tryz.func43.trans (congrArg some (by kernel_rfl))
  f224 := Tryz.func82.trans (congrArg some (by kernel_rfl))
  f225 := Tryz.func81.trans (congrArg some (by kernel_rfl))
  f260 := Tryz.func89.trans (congrArg some (by kernel_rfl))
  f266 := Tryz.func90.trans (congrArg some (by kernel_rfl))
  f267 := Tryz.func83.trans (congrArg some (by kernel_rfl))
  f268 := Tryz.func63.trans (congrArg some (by kernel_rfl))
  f314 := Tryz.func91.trans (congrArg some (by kernel_rfl))
  t0 := Tryz.underlying0
  a0 := Tryz.isAgg0
  z0 := Tryz.sizeOf0
  v0 := Tryz.zeroValue0
  t3 := Tryz.underlying3
  a3 := Tryz.isAgg3
  z3 := Tryz.sizeOf3
  v3 := Tryz.zeroValue3
  t4 := Tryz.underlying4
  a4 := Tryz.isAgg4
  z4 := Tryz.sizeOf4
  v4 := Tryz.zeroValue4
  t5 := Tryz.underlying5
  a5 := Tryz.isAgg5
  z5 := Tryz.sizeOf5
  v5 := Tryz.zeroValue5
  t9 := Tryz.underlying9
  a9 := Tryz.isAgg9
  z9 := Tryz.sizeOf9
  v9 := Tryz.zeroValue9
  t21 := Tryz.underlying21
  a21 := Tryz.isAgg21
  z21 := Tryz.sizeOf21
  v21 := Tryz.zeroValue21
  t31 := Tryz.underlying43
  a31 := Tryz.isAgg43
  z31 := Tryz.sizeOf43
  v31 := Tryz.zeroValue43
  t46 := Tryz.underlying119
  a46 := Tryz.isAgg119
  z46 := Tryz.sizeOf119
  v46 := Tryz.zeroValue119
  t51 := Tryz.underlying138
  a51 := Tryz.isAgg138
  z51 := Tryz.sizeOf138
  v51 := Tryz.zeroValue138
  t105 := Tryz.underlying115
  a105 := Tryz.isAgg115
  z105 := Tryz.sizeOf115
  v105 := Tryz.zeroValue115
  t119 := Tryz.underlying146
  a119 := Tryz.isAgg146
  z119 := Tryz.sizeOf146
  t138 := Tryz.underlying148
  a138 := Tryz.isAgg148
  z138 := Tryz.sizeOf148
  v138 := Tryz.zeroValue148
  t139 := Tryz.underlying149
  a139 := Tryz.isAgg149
  z139 := Tryz.sizeOf149
  v139 := Tryz.zeroValue149
  t146 := Tryz.underlying139
  a146 := Tryz.isAgg139
  z146 := Tryz.sizeOf139
  v146 := Tryz.zeroValue139
  g1 := by kernel_rfl
  g3 := by kernel_rfl
  g4 := by kernel_rfl }
open Go.RowKit Go.Lib in
theorem Tryz.strings_Split (s sep : ByteArray) (m : Int) (w : World) (hs : s.size < 4294967281) (hm : w.cell? ⟨0, 0, none⟩ = some (.int .i64 m)) (h1 : 1 ≤ sep.size) :
    Calls Tryz.prog 20 #[.string s, .string sep] w fun e w' =>
      e = .returned (.slice (some ⟨w.heap.size, 0, none⟩) (Lib.countB s sep + 1) (Lib.countB s sep + 1)) ∧ w' = w.alloc (.cells ((Lib.splitB sep 0 (Lib.countB s sep) s).map Value.string).toArray 9) := Any.strings_Split Tryz.lays146 (by kernel_rfl) s sep m w hs hm h1
def Tryz.lays229_ren : Go.Shelf.Ren := ⟨fun | 229 => 21 | n => n, fun | 9 => 9 | 40 => 46 | 31 => 43 | 152 => 83 | 3 => 3 | 0 => 0 | 4 => 4 | 21 => 21 | 154 => 85 | n => n, fun | n => n⟩
theorem Tryz.lays229 : Go.Proofs.Lays.n229 Tryz.prog Tryz.lays229_ren := {
  mixed := by kernel_rfl
  f229 := Tryz.func21.trans (congrArg some (by kernel_rfl))
  t0 := Tryz.underlying0
  a0 := Tryz.isAgg0
  z0 := Tryz.sizeOf0
  v0 := Tryz.zeroValue0
  t3 := Tryz.underlying3
  a3 := Tryz.isAgg3
  z3 := Tryz.sizeOf3
  v3 := Tryz.zeroValue3
  t4 := Tryz.underlying4
  a4 := Tryz.isAgg4
  z4 := Tryz.sizeOf4
  v4 := Tryz.zeroValue4
  t9 := Tryz.underlying9
  a9 := Tryz.isAgg9
  z9 := Tryz.sizeOf9
  v9 := Tryz.zeroValue9
  t21 := Tryz.underlying21
  a21 := Tryz.isAgg21
  z21 := Tryz.sizeOf21
  v21 := Tryz.zeroValue21
  t31 := Tryz.underlying43
  a31 := Tryz.isAgg43
  z31 := Tryz.sizeOf43
  v31 := Tryz.zeroValue43
  t40 := Tryz.underlying46
  a40 := Tryz.isAgg46
  z40 := Tryz.sizeOf46
  v40 := Tryz.zeroValue46
  t152 := Tryz.underlying83
  a152 := Tryz.isAgg83
  z152 := Tryz.sizeOf83
  v152 := Tryz.zeroValue83
  t154 := Tryz.underlying85
  a154 := Tryz.isAgg85
  z154 := Tryz.sizeOf85
  v154 := Tryz.zeroValue85 }
open Go.RowKit Go.Lib in
open Go.RowKit Go.Lib in
theorem Tryz.strings_FieldsFunc_grows (g : Nat) (lb : Array Value) (eg : ∀ args w, (callFunc g args).run Tryz.prog w = .ok (.enter g args) w) (p : Nat → Bool) (s : ByteArray) (w : World) (hs : s.size ≤ 4294967296) (hp : PredGrows Tryz.prog g lb p w) :
    Calls Tryz.prog 21 #[.string s, .func (.func g) #[] lb] w fun e w' => ∃ A, e = .returned (.slice (some ⟨A, 0, none⟩) (Lib.goFieldsP p s).length (Lib.goFieldsP p s).length) ∧ w.heap.size ≤ A ∧
      w'.ownsRow w.heap.size 9 1 (.slice (some ⟨A, 0, none⟩) (Lib.goFieldsP p s).length (Lib.goFieldsP p s).length) (Lib.goFieldsP p s).length ((Lib.goFieldsP p s).map Value.string) ∧ Below w.heap.size w w' := Any.strings_FieldsFunc_grows Tryz.lays229 g lb eg p s w hs hp (by kernel_rfl) (by kernel_rfl)
end Go.Proofs
namespace Go.Proofs.YtoeinhlmkpgjhaaGreatDoor
open Go.RowKit
set_option linter.unusedVariables false
set_option linter.unusedSimpArgs false
def splitL (c : UInt8) : List UInt8 → List (List UInt8)
  | [] => [[]]
  | x :: l => if x = c then [] :: splitL c l else match splitL c l with
    | [] => [[x]]
    | y :: ys => (x :: y) :: ys
theorem splitL_none {c : UInt8} : ∀ {a : List UInt8}, c ∉ a → splitL c a = [a]
  | [], _ => rfl
  | x :: a, h => by
    have hx : ¬ x = c := fun e => h (e ▸ List.mem_cons_self ..)
    rw [splitL, if_neg hx, splitL_none (fun k => h (List.mem_cons_of_mem _ k))]
theorem splitL_cut {c : UInt8} {b : List UInt8} : ∀ {a : List UInt8}, c ∉ a → splitL c (a ++ c :: b) = a :: splitL c b
  | [], _ => by rw [List.nil_append, splitL, if_pos rfl]
  | x :: a, h => by
    have hx : ¬ x = c := fun e => h (e ▸ List.mem_cons_self ..)
    rw [List.cons_append, splitL, if_neg hx, splitL_cut (fun k => h (List.mem_cons_of_mem _ k))]
theorem splitL_len (c : UInt8) : ∀ l : List UInt8, (splitL c l).length = l.count c + 1
  | [] => rfl
  | x :: l => by
    have ih := splitL_len c l
    by_cases hx : x = c
    · subst hx; rw [splitL, if_pos rfl, List.length_cons, ih, List.count_cons_self]
    · rw [splitL, if_neg hx, List.count_cons_of_ne hx]
      cases h : splitL c l with
      | nil => rw [h] at ih; simp at ih
      | cons y ys => rw [h] at ih; simpa using ih
theorem splitK_L (c : UInt8) : ∀ (n : Nat) (l : List UInt8), l.length ≤ n → Lib.splitK [c] 0 (l.count c) l = splitL c l
  | n, l, hn => by
    by_cases hc : c ∈ l
    · have h1 : Lib.indexByte l c ≠ -1 := fun e => by
        obtain ⟨k, hk, hkc⟩ := List.getElem_of_mem hc
        exact Lib.indexByte_none e k (by rw [List.getElem?_eq_getElem hk, hkc])
      have hge := Lib.indexByte_ge l c
      obtain ⟨o, ho⟩ : ∃ o : Nat, Lib.indexByte l c = o := ⟨(Lib.indexByte l c).toNat, by omega⟩
      obtain ⟨h2, h3⟩ := Lib.indexByte_some ho
      have hlt : o < l.length := (List.getElem?_eq_some_iff.1 h2).1
      have hlo : l[o] = c := (List.getElem?_eq_some_iff.1 h2).2
      have e : l = l.take o ++ c :: l.drop (o + 1) := by
        have := List.take_append_drop o l
        rw [List.drop_eq_getElem_cons hlt, hlo] at this; exact this.symm
      have hn1 : c ∉ l.take o := fun k => by
        obtain ⟨q, hq, hqc⟩ := List.getElem_of_mem k
        have hq2 : q < o := by simp at hq; omega
        exact h3 q hq2 (by rw [List.getElem?_eq_getElem (by omega), ← hqc]; simp)
      have hcount : l.count c = (l.drop (o + 1)).count c + 1 := by
        conv => lhs; rw [e]
        rw [List.count_append, List.count_eq_zero.2 hn1, List.count_cons_self]; omega
      cases n with
      | zero => omega
      | succ n =>
        rw [hcount, Lib.splitK, Lib.index_one, if_neg (by simpa using h1), ho]
        simp only [Int.toNat_natCast, Nat.add_zero, List.length_singleton]
        rw [splitK_L c n _ (by simp; omega)]
        conv => rhs; rw [e]
        exact (splitL_cut hn1).symm
    · rw [List.count_eq_zero.2 hc, Lib.splitK, splitL_none hc]
def wordsL (l : List UInt8) : List (List UInt8) := (splitL 32 l).filter fun x => decide (x ≠ [])
theorem get_l (l : List UInt8) (i : Nat) : ((⟨l.toArray⟩ : ByteArray).get! i) = l.getD i 0 := by
  show (l.toArray)[i]! = _
  simp [List.getD]; rfl
theorem dec_step {l : List UInt8} {p : Nat} (h : p < l.length) : 1 ≤ (Utf8.decode ⟨l.toArray⟩ p).2 ∧ p + (Utf8.decode ⟨l.toArray⟩ p).2 ≤ l.length ∧
    ((l.getD p 0 = 32 ∧ (Utf8.decode ⟨l.toArray⟩ p).1 = 32 ∧ (Utf8.decode ⟨l.toArray⟩ p).2 = 1) ∨ ((Utf8.decode ⟨l.toArray⟩ p).1 ≠ 32 ∧ ∀ j, p ≤ j → j < p + (Utf8.decode ⟨l.toArray⟩ p).2 → l.getD j 0 ≠ 32)) := by
  have hs : (⟨l.toArray⟩ : ByteArray).size = l.length := rfl
  have e := Lib.decode_at ⟨l.toArray⟩ p
  rw [get_l, get_l, get_l, get_l, hs] at e
  have key : ∀ {x : UInt8}, x.toNat / 64 = 2 → x ≠ 32 := fun h k => by subst k; simp at h
  have k0 : ∀ {x : UInt8}, ¬ x.toNat = 32 → x ≠ 32 := fun h k => by subst k; simp at h
  have one : ∀ j, p ≤ j → j < p + 1 → j = p := fun j h1 h2 => by omega
  rcases Lib.decodeN_shape (l.length - p) (l.getD p 0).toNat (l.getD (p + 1) 0).toNat (l.getD (p + 2) 0).toNat (l.getD (p + 3) 0).toNat with ⟨h0, q⟩ | ⟨h0, h1, h2, h3, q⟩ | ⟨h0, h1, h2, h3, h4, h5, q⟩ | ⟨h0, h1, h2, h3, h4, h5, h6, q⟩ | q
  · rw [q] at e
    rw [e]
    refine ⟨Nat.le_refl _, by simp only; omega, ?_⟩
    by_cases h32 : (l.getD p 0).toNat = 32
    · exact .inl ⟨UInt8.toNat_inj.1 (by simpa using h32), h32, rfl⟩
    · exact .inr ⟨h32, fun j h1 h2 => by rw [one j h1 h2]; exact k0 h32⟩
  · rw [q] at e
    rw [e]
    refine ⟨(show 1 ≤ 2 by decide), by simp only; omega, .inr ⟨by simp only; omega, fun j j1 j2 => ?_⟩⟩
    rcases (show j = p ∨ j = p + 1 by simp only at j2; omega) with rfl | rfl
    · exact k0 (by omega)
    · exact key h2
  · rw [q] at e
    rw [e]
    refine ⟨(show 1 ≤ 3 by decide), by simp only; omega, .inr ⟨by simp only; omega, fun j j1 j2 => ?_⟩⟩
    rcases (show j = p ∨ j = p + 1 ∨ j = p + 2 by simp only at j2; omega) with rfl | rfl | rfl
    · exact k0 (by omega)
    · exact key h2
    · exact key h3
  · rw [q] at e
    rw [e]
    refine ⟨(show 1 ≤ 4 by decide), by simp only; omega, .inr ⟨by simp only; omega, fun j j1 j2 => ?_⟩⟩
    rcases (show j = p ∨ j = p + 1 ∨ j = p + 2 ∨ j = p + 3 by simp only at j2; omega) with rfl | rfl | rfl | rfl
    · exact k0 (by omega)
    · exact key h2
    · exact key h3
    · exact key h4
  · have e' := e
    rw [q] at e
    rw [e]
    refine ⟨Nat.le_refl _, by simp only; omega, .inr ⟨by decide, fun j j1 j2 => ?_⟩⟩
    rw [one j j1 j2]
    refine k0 fun h32 => ?_
    rw [show Lib.decodeN (l.length - p) (l.getD p 0).toNat (l.getD (p + 1) 0).toNat (l.getD (p + 2) 0).toNat (l.getD (p + 3) 0).toNat = ((l.getD p 0).toNat, 1) from if_pos (by omega), h32] at q
    simp at q
def pieceL (l : List UInt8) (a b : Nat) : List UInt8 := (l.take b).drop a
theorem extract_l (l : List UInt8) (a b : Nat) : ((⟨l.toArray⟩ : ByteArray).extract a b).data.toList = pieceL l a b := by
  rw [Lib.extract_data]; unfold pieceL
  rw [List.drop_take]
def sp32 (r : Nat) : Bool := decide (r = 32)
theorem not_mem_piece {l : List UInt8} {a b : Nat} (h : ∀ j, a ≤ j → j < b → l.getD j 0 ≠ 32) : (32 : UInt8) ∉ pieceL l a b := fun k => by
  obtain ⟨q, hq, hqc⟩ := List.getElem_of_mem k
  unfold pieceL at hq hqc
  simp at hq
  refine h (a + q) (by omega) (by omega) ?_
  rw [List.getD_eq_getElem?_getD, List.getElem?_eq_getElem (by omega)]
  simpa using hqc
theorem fld_eq (l : List UInt8) (f pos : Nat) (st : Option Nat) (acc : List (Nat × Nat)) : Lib.spansFromP sp32 ⟨l.toArray⟩ (f + 1) pos st acc = if pos < (⟨l.toArray⟩ : ByteArray).size then (if sp32 (Utf8.decode ⟨l.toArray⟩ pos).1 then (match st with
    | some a => Lib.spansFromP sp32 ⟨l.toArray⟩ f (pos + (Utf8.decode ⟨l.toArray⟩ pos).2) none (acc ++ [(a, pos)])
    | none => Lib.spansFromP sp32 ⟨l.toArray⟩ f (pos + (Utf8.decode ⟨l.toArray⟩ pos).2) none acc) else (match st with
    | some a => Lib.spansFromP sp32 ⟨l.toArray⟩ f (pos + (Utf8.decode ⟨l.toArray⟩ pos).2) (some a) acc
    | none => Lib.spansFromP sp32 ⟨l.toArray⟩ f (pos + (Utf8.decode ⟨l.toArray⟩ pos).2) (some pos) acc)) else (acc, st) := rfl
theorem fld (l : List UInt8) : ∀ (f pos : Nat) (st : Option Nat) (acc : List (Nat × Nat)), l.length - pos ≤ f → pos ≤ l.length → (∀ a, st = some a → a < pos ∧ ∀ j, a ≤ j → j < pos → l.getD j 0 ≠ 32) →
    (Lib.closeSpans ⟨l.toArray⟩ (Lib.spansFromP sp32 ⟨l.toArray⟩ f pos st acc)).map (fun x => pieceL l x.1 x.2) = acc.map (fun x => pieceL l x.1 x.2) ++ wordsL (l.drop (st.getD pos)) := by
  intro f
  have hs : (⟨l.toArray⟩ : ByteArray).size = l.length := rfl
  have atEnd : ∀ (f pos : Nat) (st : Option Nat) (acc : List (Nat × Nat)), ¬ pos < l.length → pos ≤ l.length → (∀ a, st = some a → a < pos ∧ ∀ j, a ≤ j → j < pos → l.getD j 0 ≠ 32) →
      (Lib.closeSpans ⟨l.toArray⟩ (Lib.spansFromP sp32 ⟨l.toArray⟩ f pos st acc)).map (fun x => pieceL l x.1 x.2) = acc.map (fun x => pieceL l x.1 x.2) ++ wordsL (l.drop (st.getD pos)) := by
    intro f pos st acc hp hp2 hst
    rw [Lib.spansFromP_end _ _ _ _ _ _ (by rw [hs]; exact hp)]
    cases st with
    | none =>
      simp only [Lib.closeSpans, Option.getD_none]
      rw [List.drop_of_length_le (by omega)]
      simp [wordsL, splitL]
    | some a =>
      obtain ⟨h1, h2⟩ := hst a rfl
      have hpe : pos = l.length := by omega
      have e : pieceL l a l.length = l.drop a := by unfold pieceL; rw [List.take_length]
      have hn := not_mem_piece h2
      rw [hpe, e] at hn
      have hne : l.drop a ≠ [] := fun k => by have := congrArg List.length k; simp at this; omega
      simp only [Lib.closeSpans, Option.getD_some, hs, List.map_append, List.map_cons, List.map_nil, e]
      rw [wordsL, splitL_none hn]
      simp [hne]
  induction f with
  | zero => exact fun pos st acc h1 h2 h3 => atEnd 0 pos st acc (by omega) h2 h3
  | succ f ih =>
    intro pos st acc h1 h2 h3
    by_cases hp : pos < l.length
    · obtain ⟨d1, d2, d3⟩ := dec_step hp
      rw [fld_eq, if_pos (by rw [hs]; exact hp)]
      rcases d3 with ⟨g1, g2, g3⟩ | ⟨g1, g2⟩
      · have hp32 : sp32 (Utf8.decode ⟨l.toArray⟩ pos).1 = true := decide_eq_true g2
        have hd : l.drop pos = 32 :: l.drop (pos + 1) := by
          rw [List.drop_eq_getElem_cons hp]
          rw [List.getD_eq_getElem?_getD, List.getElem?_eq_getElem hp] at g1
          exact congrArg (· :: l.drop (pos + 1)) g1
        rw [if_pos hp32, g3]
        cases st with
        | none =>
          simp only [Option.getD_none]
          rw [ih (pos + 1) none acc (by omega) (by omega) (fun a h => by cases h), hd]
          simp [wordsL, splitL]
        | some a =>
          obtain ⟨q1, q2⟩ := h3 a rfl
          simp only [Option.getD_some]
          rw [ih (pos + 1) none (acc ++ [(a, pos)]) (by omega) (by omega) (fun a h => by cases h)]
          have hne : pieceL l a pos ≠ [] := fun k => by have := congrArg List.length k; unfold pieceL at this; simp at this; omega
          have e : l.drop a = pieceL l a pos ++ 32 :: l.drop (pos + 1) := by
            rw [← hd]
            unfold pieceL
            rw [List.drop_take, show l.drop pos = (l.drop a).drop (pos - a) by rw [List.drop_drop]; congr 1; omega, List.take_append_drop]
          have e2 : wordsL (pieceL l a pos ++ 32 :: l.drop (pos + 1)) = pieceL l a pos :: wordsL (l.drop (pos + 1)) := by
            unfold wordsL
            rw [splitL_cut (not_mem_piece q2), List.filter_cons_of_pos (by simpa using hne)]
          rw [e, e2]
          simp
      · have hp32 : ¬ sp32 (Utf8.decode ⟨l.toArray⟩ pos).1 = true := by simpa [sp32] using g1
        rw [if_neg hp32]
        cases st with
        | none =>
          simp only
          rw [ih _ (some pos) acc (by omega) d2 (fun a h => by cases h; exact ⟨by omega, g2⟩)]
          rfl
        | some a =>
          obtain ⟨q1, q2⟩ := h3 a rfl
          simp only
          rw [ih _ (some a) acc (by omega) d2 (fun b h => by
            cases h
            exact ⟨by omega, fun j j1 j2 => if hj : j < pos then q2 j j1 hj else g2 j (by omega) j2⟩)]
          rfl
    · exact atEnd _ pos st acc hp h2 h3
theorem fields_words (l : List UInt8) : (Lib.goFieldsP sp32 ⟨l.toArray⟩).map (·.data.toList) = wordsL l := by
  have h := fld l l.length 0 none [] (by omega) (Nat.zero_le _) (fun a h => by cases h)
  rw [List.map_nil, List.nil_append, Option.getD_none, List.drop_zero] at h
  rw [← h]
  unfold Lib.goFieldsP Lib.spansOfP
  rw [List.map_map]
  refine List.map_congr_left fun x _ => ?_
  exact extract_l l x.1 x.2
end Go.Proofs.YtoeinhlmkpgjhaaGreatDoor
namespace Go.Proofs.YtoeinhlmkpgjhaaGreatDoor
open Go.RowKit
set_option linter.unusedVariables false
set_option linter.unusedSimpArgs false
abbrev strC (l : List UInt8) : List Value := [.string ⟨l.toArray⟩]
theorem EK.of {α : Type} {cl : α → List Value} {m : Nat} {E : TypeId} {z : Value} {bt : Nat} (len : ∀ x, (cl x).length = m) (one : ∀ x, (cl x).all Value.oneCell' = true) (pos : 0 < m) (h : (Tryz.prog.info? E).map (fun i => (i.zero, i.size, i.bytes)) = some (some z, m, bt)) (hz : z.cells.size = m) (hb : bt ≤ 512) : EK cl m E := by
  refine ⟨len, fun x u hu => List.all_eq_true.1 (one x) u hu, pos, ?_⟩
  obtain ⟨i, hi, hp⟩ := Option.map_eq_some_iff.1 h
  simp only [Prod.mk.injEq] at hp
  exact ⟨i, z, hi, hp.1, hp.2.1, hz, by omega⟩
theorem ekStr : EK strC 1 9 := EK.of (z := .string ⟨#[]⟩) (bt := 16) (fun _ => rfl) (fun _ => rfl) (by decide) (by kernel_rfl) rfl (by decide)
section
variable {α β : Type} {xs ys : List α} {i : Int} {r q : α}
def eqU (xs ys : List α) (i : Int) : Prop := xs.take i.toNat = ys.take i.toNat
theorem eqU_zero (xs ys : List α) : eqU xs ys 0 := by simp [eqU]
theorem take_succI (h0 : 0 ≤ i) (hr : xs[i.toNat]? = some r) : xs.take (i + 1).toNat = xs.take i.toNat ++ [r] := by
  rw [show (i + 1).toNat = i.toNat + 1 by omega, List.take_add_one, hr]; rfl
theorem eqU_succ (h0 : 0 ≤ i) (h : eqU xs ys i) (hr : xs[i.toNat]? = some r) (hq : ys[i.toNat]? = some q) (e : r = q) : eqU xs ys (i + 1) := by
  unfold eqU at *; rw [take_succI h0 hr, take_succI h0 hq, h, e]
theorem eqU_bad [DecidableEq α] (hr : xs[i.toNat]? = some r) (hq : ys[i.toNat]? = some q) (e : r ≠ q) : false = decide (xs = ys) := by
  refine (decide_eq_false fun h => e ?_).symm
  rw [h, hq] at hr; exact (Option.some.inj hr).symm
theorem eqU_len [DecidableEq α] (h : (xs.length : Int) ≠ ys.length) : false = decide (xs = ys) := (decide_eq_false fun e => h (by rw [e])).symm
theorem eqU_end [DecidableEq α] (h1 : (xs.length : Int) ≤ i) (hl : (xs.length : Int) = ys.length) (h : eqU xs ys i) : true = decide (xs = ys) := by
  refine (decide_eq_true ?_).symm
  unfold eqU at h
  rwa [List.take_of_length_le (by omega), List.take_of_length_le (by omega)] at h
end
end Go.Proofs.YtoeinhlmkpgjhaaGreatDoor
namespace Go.Proofs.YtoeinhlmkpgjhaaGreatDoor
open Go.RowKit
set_option linter.unusedVariables false
set_option linter.unusedSimpArgs false
def GB (w : World) : Prop := (∃ m, w.cell? ⟨0, 0, none⟩ = some (.int .i64 m)) ∧ Lib.TabIs Tryz.prog w "internal/strconv.uint64pow10" .u64 Lib.pow10Tab ∧ 6 ≤ w.heap.size
theorem GB.keeps {S : Nat → Prop} {w w' : World} (h : GB w) (k : Keeps S w w') (hn : ∀ i, i < 6 → ¬ S i) : GB w' := by
  obtain ⟨⟨m, hm⟩, ht, hs⟩ := h
  have e : ∀ i, i < 6 → w'.heap[i]? = w.heap[i]? := fun i hi => k.block i (by omega) (hn i hi)
  refine ⟨⟨m, ?_⟩, ?_, Nat.le_trans hs k.size⟩
  · unfold World.cell? at hm ⊢
    simp only at hm ⊢
    rw [e _ (by decide)]; exact hm
  · have hg : Tryz.prog.globalNamed "internal/strconv.uint64pow10" = some 1 := by kernel_rfl
    unfold Lib.TabIs World.var? at ht ⊢
    rw [hg, Option.bind_some] at ht ⊢
    rw [e _ (by decide)]; exact ht
theorem GB.adds {w w' : World} (h : GB w) (k : Adds w w') : GB w' := h.keeps k (fun _ _ x => x)
theorem map_str : ∀ L : List ByteArray, L.map Value.string = (L.map (·.data.toList)).flatMap strC
  | [] => rfl
  | b :: L => by
    rw [List.map_cons, List.map_cons, List.flatMap_cons, map_str L]; rfl
theorem adds_drew (w : World) : ∀ n, Adds w (w.drewN n)
  | 0 => Keeps.refl _ w
  | n + 1 => (adds_drew w n).trans ((Keeps.refl _ _).drew)
section
variable {w : World} {l : List UInt8}
theorem lSplit_c {c : UInt8} (h : GB w) (hl : l.length < 4294967281) : Calls Tryz.prog 20 #[.string ⟨l.toArray⟩, .string ⟨[c].toArray⟩] w fun e w' => ∃ A cap, e = .returned (.slice A (splitL c l).length cap) ∧ OwAt strC 1 9 A cap (splitL c l) w' ∧ (∀ i, blk A = some i → w.heap.size ≤ i) ∧ Adds w w' := by
  obtain ⟨⟨m, hm⟩, _⟩ := h
  have hc : Lib.countB ⟨l.toArray⟩ ⟨[c].toArray⟩ = l.count c := Lib.count_one c l
  have hd : (Lib.splitB ⟨[c].toArray⟩ 0 (Lib.countB ⟨l.toArray⟩ ⟨[c].toArray⟩) ⟨l.toArray⟩).map (·.data.toList) = splitL c l := by
    rw [Lib.splitB_data, hc]; exact splitK_L c l.length l (Nat.le_refl _)
  have hlen : (Lib.splitB ⟨[c].toArray⟩ 0 (Lib.countB ⟨l.toArray⟩ ⟨[c].toArray⟩) ⟨l.toArray⟩).length = (splitL c l).length := by rw [← hd, List.length_map]
  have hn : Lib.countB ⟨l.toArray⟩ ⟨[c].toArray⟩ + 1 = (splitL c l).length := by rw [hc, splitL_len]
  have hle := List.count_le_length (a := c) (l := l)
  refine (Tryz.strings_Split ⟨l.toArray⟩ ⟨[c].toArray⟩ m w hl hm (by show 1 ≤ [c].length; simp)).mono ?_
  rintro e w' ⟨rfl, rfl⟩
  refine ⟨_, _, by rw [hn], ?_, ?_, (Keeps.refl _ w).alloc _⟩
  · have := World.ownsRow_lit (base := 0) (size := 1) (e := 9) w ((Lib.splitB ⟨[c].toArray⟩ 0 (Lib.countB ⟨l.toArray⟩ ⟨[c].toArray⟩) ⟨l.toArray⟩).map Value.string).toArray (splitL c l).length (Nat.zero_le _) (by unfold maxLen; rw [splitL_len]; omega) (by simp [hlen])
    unfold OwAt
    rw [← hn] at this ⊢
    rw [← hd, ← map_str]
    exact this
  · intro i hi
    simp [blk] at hi
    omega
end
end Go.Proofs.YtoeinhlmkpgjhaaGreatDoor
namespace Go.Proofs.YtoeinhlmkpgjhaaGreatDoor
open Go.RowKit
set_option linter.unusedVariables false
set_option linter.unusedSimpArgs false
theorem u8_of_nat {c : UInt8} (h : (c.toNat : Int) = 48) : c = 48 := UInt8.toNat_inj.1 (by show c.toNat = 48; omega)
set_option maxRecDepth 100000 in
set_option maxHeartbeats 4000000 in
theorem lnNumber_c {l : List UInt8} (hl : l.length ≤ 9223372036854775807) (w : World) : Calls Tryz.prog 29 #[.string ⟨l.toArray⟩] w fun e w' => e = .returned (.tuple #[.int .i64 ((numV l : Nat) : Int), .bool (decide (numP l))]) ∧ Adds w w' := by
  have K : Keeps (fun _ => False) w w := Keeps.refl _ w
  refine Calls.start Tryz.func29 rfl (by kernel_rfl) ?_
  refine WC.seq ?_
  refine WC.region ?_
  refine WL.op (d := 2) (.int .i64 0) (k := ?_)
  refine WL.op (d := 3) (.bool false) (k := ?_)
  refine WL.nil ?_
  refine WX.seqN ?_
  refine WC.seq ?_
  refine WC.seq ?_
  refine WC.region ?_
  refine WL.op (d := 7) (.string ⟨(l).toArray⟩) (k := ?_)
  refine WL.opE (d := 8) (.bool (ByteArray.toList ⟨(l).toArray⟩ == ByteArray.toList ⟨([]).toArray⟩)) (v := .bool (decide (l = []))) (str_eql _ _) (k := ?_)
  refine WL.op (d := 9) (.bool (decide (l = []))) (k := ?_)
  refine bsplit (decide (l = [])) (fun h1 => ?_) (fun h1 => ?_)
  · have ph1 := of_decide_eq_true h1
    refine WL.rw (t := 9) (v := .bool true) (congrArg Value.bool h1) (k := ?_)
    refine WL.skip (d := 10) (k := ?_)
    refine WL.skip (d := 11) (k := ?_)
    refine WL.skip (d := 12) (k := ?_)
    refine WL.skip (d := 13) (k := ?_)
    refine WL.skip (d := 14) (k := ?_)
    refine WL.skip (d := 15) (k := ?_)
    refine WL.skip (d := 16) (k := ?_)
    refine WL.skip (d := 17) (k := ?_)
    refine WL.op (d := 18) (.bool true) (k := ?_)
    refine WL.nil ?_
    refine WX.seqN ?_
    refine WC.condT (k := ?_)
    refine WC.seq ?_
    refine WC.region ?_
    refine WL.op (d := 2) (.int .i64 0) (k := ?_)
    refine WL.op (d := 3) (.bool false) (k := ?_)
    refine WL.nil ?_
    refine WX.seqN ?_
    refine WC.ret ?_
    refine WX.seqR ?_
    refine WX.ret (rs := [.tmp 2, .tmp 3]) [.int .i64 0, .bool false] (.tuple #[.int .i64 0, .bool false]) ⟨(by kernel_rfl), (by kernel_rfl), trivial⟩ (k := ?_)
    obtain ⟨e1_, e2_⟩ := num_no (l := l) (fun k_ => k_.1 ph1)
    exact ⟨by rw [e1_, e2_]; rfl, K⟩
  · have ph1 := of_decide_eq_false h1
    refine WL.rw (t := 9) (v := .bool false) (congrArg Value.bool h1) (k := ?_)
    refine WL.op (d := 10) (.string ⟨(l).toArray⟩) (k := ?_)
    refine WL.op (d := 11) (.int .i64 (l.length : Int)) (k := ?_)
    refine WL.op (d := 12) (.bool (decide ((l.length : Int) > 1))) (k := ?_)
    refine WL.op (d := 13) (.bool (decide ((l.length : Int) > 1))) (k := ?_)
    refine bsplit (decide ((l.length : Int) > 1)) (fun h2 => ?_) (fun h2 => ?_)
    · have ph2 := of_decide_eq_true h2
      refine WL.rw (t := 13) (v := .bool true) (congrArg Value.bool h2) (k := ?_)
      refine WL.op (d := 14) (.string ⟨(l).toArray⟩) (k := ?_)
      refine WL.strAt (T := 9) (l := l) (i := 0) (kk := .i64) (d := 15) (by omega) (by first | omega | (simp; omega)) (by kernel_rfl) (by kernel_rfl) (by kernel_rfl) (by kernel_rfl) (by kernel_rfl) ?_
      have ub3 := u8_lt (List.getD l (0 : Int).toNat 0)
      refine WL.op (d := 16) (.bool (((List.getD l (0 : Int).toNat 0).toNat : Int) == 48)) (k := ?_)
      refine WL.op (d := 17) (.bool (((List.getD l (0 : Int).toNat 0).toNat : Int) == 48)) (k := ?_)
      refine WL.op (d := 18) (.bool (((List.getD l (0 : Int).toNat 0).toNat : Int) == 48)) (k := ?_)
      refine WL.nil ?_
      refine WX.seqN ?_
      refine WC.cond (b := ((List.getD l (0 : Int).toNat 0).toNat : Int) == 48) (ht := fun h4 => ?_) (hf := fun h4 => ?_)
      · have ph4 := eq_of_beq h4
        refine WC.seq ?_
        refine WC.region ?_
        refine WL.op (d := 2) (.int .i64 0) (k := ?_)
        refine WL.op (d := 3) (.bool false) (k := ?_)
        refine WL.nil ?_
        refine WX.seqN ?_
        refine WC.ret ?_
        refine WX.seqR ?_
        refine WX.ret (rs := [.tmp 2, .tmp 3]) [.int .i64 0, .bool false] (.tuple #[.int .i64 0, .bool false]) ⟨(by kernel_rfl), (by kernel_rfl), trivial⟩ (k := ?_)
        obtain ⟨e1_, e2_⟩ := num_no (l := l) (fun k_ => k_.2.1 ⟨by omega, u8_of_nat (by simpa using ph4)⟩)
        exact ⟨by rw [e1_, e2_]; rfl, K⟩
      · have ph4 := ne_of_beq_false h4
        refine WC.skip ?_
        refine WX.seqN ?_
        refine WC.seq ?_
        refine WC.region ?_
        refine WL.op (d := 4) (.int .i64 0) (k := ?_)
        refine WL.nil ?_
        refine WX.seqN ?_
        refine WC.seq ?_
        refine WC.seq ?_
        refine WC.region ?_
        refine WL.op (d := 19) (.string ⟨(l).toArray⟩) (k := ?_)
        refine WL.rangeS (d := 20) (l := l) (by kernel_rfl) (by kernel_rfl) (by kernel_rfl) (by kernel_rfl) (fun b5 w6 g7 hb8 k9 => ?_)
        have z10 := Nat.le_trans K.size g7
        replace K := K.trans (k9.any _)
        refine WL.nil ?_
        refine WX.seqN ?_
        refine WC.block ?_
        refine WC.rw (t := 4) (v := .int .i64 ((dv (List.take 0 l) : Nat) : Int)) (rfl) (k := ?_)
        refine WC.loop (ι := Nat) (fun (p : Nat) => [(0, .string ⟨(l).toArray⟩), (7, .string ⟨(l).toArray⟩), (8, .bool (decide (l = []))), (9, .bool false), (10, .string ⟨(l).toArray⟩), (11, .int .i64 (l.length : Int)), (12, .bool (decide ((l.length : Int) > 1))), (13, .bool true), (14, .string ⟨(l).toArray⟩), (15, .int .u8 ((List.getD l (0 : Int).toNat 0).toNat : Int)), (16, .bool (((List.getD l (0 : Int).toNat 0).toNat : Int) == 48)), (17, .bool (((List.getD l (0 : Int).toNat 0).toNat : Int) == 48)), (18, .bool (((List.getD l (0 : Int).toNat 0).toNat : Int) == 48)), (19, .string ⟨(l).toArray⟩), (20, .pointer (some ⟨b5, 0, none⟩)), (4, .int .i64 ((dv (List.take p l) : Nat) : Int))]) (fun (p : Nat) (w_ : World) => (Keeps (fun _ => False) w w_) ∧ (w_.heap[b5]? = some (.stringIter ⟨l.toArray⟩ p)) ∧ (p ≤ l.length) ∧ (∀ c ∈ l.take p, digB c = true) ∧ (dv (l.take p) ≤ 2147483648)) (fun (p : Nat) => (l.length - p)) 0 ⟨(by kernel_rfl), (by kernel_rfl), (by kernel_rfl), (by kernel_rfl), (by kernel_rfl), (by kernel_rfl), (by kernel_rfl), (by kernel_rfl), (by kernel_rfl), (by kernel_rfl), (by kernel_rfl), (by kernel_rfl), (by kernel_rfl), (by kernel_rfl), (by kernel_rfl), (by kernel_rfl), trivial⟩ ⟨K, hb8, (Nat.zero_le _), (by simp), (by simp [dv])⟩ ?_
        rintro p w11 ⟨K, hb12, hp, hd, hv⟩
        refine WC.seq ?_
        refine WC.region ?_
        refine bsplit (decide (p < List.length l)) (fun h13 => ?_) (fun h13 => ?_)
        · have ph13 := of_decide_eq_true h13
          refine WL.nextS (d := 21) (b := b5) (pos := p) (l := l) hb12 ph13 (by kernel_rfl) (by kernel_rfl) (by kernel_rfl) (fun w14 hb15 k16 => ?_)
          replace K := K.trans' k16 (fun i hi e => absurd (e ▸ hi) (Nat.not_lt.2 z10))
          clear hb12
          have dl_ := decode_le ⟨l.toArray⟩ p
          refine WL.op (d := 22) (.bool true) (k := ?_)
          refine WL.nil ?_
          refine WX.seqN ?_
          refine WC.seq ?_
          refine WC.condT (k := ?_)
          refine WC.skip ?_
          refine WX.seqN ?_
          refine WC.block ?_
          refine WC.seq ?_
          refine WC.region ?_
          refine WL.op (d := 23) (.int .i32 (((Utf8.decode ⟨l.toArray⟩ p).1 : Nat) : Int)) (k := ?_)
          refine WL.op (d := 6) (.int .i32 (((Utf8.decode ⟨l.toArray⟩ p).1 : Nat) : Int)) (k := ?_)
          refine WL.nil ?_
          refine WX.seqN ?_
          refine WC.seq ?_
          refine WC.seq ?_
          refine WC.region ?_
          refine WL.op (d := 24) (.int .i32 (((Utf8.decode ⟨l.toArray⟩ p).1 : Nat) : Int)) (k := ?_)
          refine WL.op (d := 25) (.bool (decide ((((Utf8.decode ⟨l.toArray⟩ p).1 : Nat) : Int) < 48))) (k := ?_)
          refine WL.op (d := 26) (.bool (decide ((((Utf8.decode ⟨l.toArray⟩ p).1 : Nat) : Int) < 48))) (k := ?_)
          refine bsplit (decide ((((Utf8.decode ⟨l.toArray⟩ p).1 : Nat) : Int) < 48)) (fun h17 => ?_) (fun h17 => ?_)
          · have ph17 := of_decide_eq_true h17
            refine WL.rw (t := 26) (v := .bool true) (congrArg Value.bool h17) (k := ?_)
            refine WL.skip (d := 27) (k := ?_)
            refine WL.skip (d := 28) (k := ?_)
            refine WL.op (d := 29) (.bool true) (k := ?_)
            refine WL.nil ?_
            refine WX.seqN ?_
            refine WC.condT (k := ?_)
            refine WC.seq ?_
            refine WC.region ?_
            refine WL.op (d := 2) (.int .i64 0) (k := ?_)
            refine WL.op (d := 3) (.bool false) (k := ?_)
            refine WL.nil ?_
            refine WX.seqN ?_
            refine WC.ret ?_
            refine WX.seqR ?_
            refine WX.blockR ?_
            refine WX.seqR ?_
            refine WX.blockR ?_
            refine WX.seqR ?_
            refine WX.ret (rs := [.tmp 2, .tmp 3]) [.int .i64 0, .bool false] (.tuple #[.int .i64 0, .bool false]) ⟨(by kernel_rfl), (by kernel_rfl), trivial⟩ (k := ?_)
            obtain ⟨e1_, e2_⟩ := num_no (l := l) (not_num_at ph13 ((rune_at ph13).elim (fun g_ => by obtain ⟨g1_, g2_, g3_⟩ := g_; exfalso; unfold digB at g1_; simp only [Bool.and_eq_true, decide_eq_true_eq] at g1_; omega) (fun g_ => g_.1)))
            exact ⟨by rw [e1_, e2_]; rfl, K⟩
          · have ph17 := of_decide_eq_false h17
            refine WL.rw (t := 26) (v := .bool false) (congrArg Value.bool h17) (k := ?_)
            refine WL.op (d := 27) (.int .i32 (((Utf8.decode ⟨l.toArray⟩ p).1 : Nat) : Int)) (k := ?_)
            refine WL.op (d := 28) (.bool (decide ((((Utf8.decode ⟨l.toArray⟩ p).1 : Nat) : Int) > 57))) (k := ?_)
            refine WL.op (d := 29) (.bool (decide ((((Utf8.decode ⟨l.toArray⟩ p).1 : Nat) : Int) > 57))) (k := ?_)
            refine WL.nil ?_
            refine WX.seqN ?_
            refine WC.cond (b := decide ((((Utf8.decode ⟨l.toArray⟩ p).1 : Nat) : Int) > 57)) (ht := fun h18 => ?_) (hf := fun h18 => ?_)
            · have ph18 := of_decide_eq_true h18
              refine WC.seq ?_
              refine WC.region ?_
              refine WL.op (d := 2) (.int .i64 0) (k := ?_)
              refine WL.op (d := 3) (.bool false) (k := ?_)
              refine WL.nil ?_
              refine WX.seqN ?_
              refine WC.ret ?_
              refine WX.seqR ?_
              refine WX.blockR ?_
              refine WX.seqR ?_
              refine WX.blockR ?_
              refine WX.seqR ?_
              refine WX.ret (rs := [.tmp 2, .tmp 3]) [.int .i64 0, .bool false] (.tuple #[.int .i64 0, .bool false]) ⟨(by kernel_rfl), (by kernel_rfl), trivial⟩ (k := ?_)
              obtain ⟨e1_, e2_⟩ := num_no (l := l) (not_num_at ph13 ((rune_at ph13).elim (fun g_ => by obtain ⟨g1_, g2_, g3_⟩ := g_; exfalso; unfold digB at g1_; simp only [Bool.and_eq_true, decide_eq_true_eq] at g1_; omega) (fun g_ => g_.1)))
              exact ⟨by rw [e1_, e2_]; rfl, K⟩
            · have ph18 := of_decide_eq_false h18
              refine WC.skip ?_
              refine WX.seqN ?_
              refine WC.seq ?_
              refine WC.region ?_
              refine WL.op (d := 30) (.int .i64 ((dv (List.take p l) : Nat) : Int)) (k := ?_)
              refine WL.opE (d := 31) (.int .i64 (IntKind.i64.wrap (((dv (List.take p l) : Nat) : Int) * 10))) (v := .int .i64 (((dv (List.take p l) : Nat) : Int) * 10)) (congrArg (Value.int .i64) (IntWalk.i64_in _ (by omega))) (k := ?_)
              refine WL.op (d := 32) (.int .i32 (((Utf8.decode ⟨l.toArray⟩ p).1 : Nat) : Int)) (k := ?_)
              refine WL.opE (d := 33) (.int .i32 (IntKind.i32.wrap ((((Utf8.decode ⟨l.toArray⟩ p).1 : Nat) : Int) - 48))) (v := .int .i32 ((((Utf8.decode ⟨l.toArray⟩ p).1 : Nat) : Int) - 48)) (congrArg (Value.int .i32) (IntWalk.i32_in _ (by omega))) (k := ?_)
              refine WL.opE (d := 34) (.int .i64 (IntKind.i64.wrap ((((Utf8.decode ⟨l.toArray⟩ p).1 : Nat) : Int) - 48))) (v := .int .i64 ((((Utf8.decode ⟨l.toArray⟩ p).1 : Nat) : Int) - 48)) (congrArg (Value.int .i64) (IntWalk.i64_in _ (by omega))) (k := ?_)
              refine WL.opE (d := 35) (.int .i64 (IntKind.i64.wrap ((((dv (List.take p l) : Nat) : Int) * 10) + ((((Utf8.decode ⟨l.toArray⟩ p).1 : Nat) : Int) - 48)))) (v := .int .i64 ((((dv (List.take p l) : Nat) : Int) * 10) + ((((Utf8.decode ⟨l.toArray⟩ p).1 : Nat) : Int) - 48))) (congrArg (Value.int .i64) (IntWalk.i64_in _ (by omega))) (k := ?_)
              refine WL.op (d := 4) (.int .i64 ((((dv (List.take p l) : Nat) : Int) * 10) + ((((Utf8.decode ⟨l.toArray⟩ p).1 : Nat) : Int) - 48))) (k := ?_)
              refine WL.nil ?_
              refine WX.seqN ?_
              refine WC.seq ?_
              refine WC.region ?_
              refine WL.op (d := 36) (.int .i64 ((((dv (List.take p l) : Nat) : Int) * 10) + ((((Utf8.decode ⟨l.toArray⟩ p).1 : Nat) : Int) - 48))) (k := ?_)
              refine WL.op (d := 37) (.bool (decide (((((dv (List.take p l) : Nat) : Int) * 10) + ((((Utf8.decode ⟨l.toArray⟩ p).1 : Nat) : Int) - 48)) > 2147483648))) (k := ?_)
              refine WL.nil ?_
              refine WX.seqN ?_
              refine WC.cond (b := decide (((((dv (List.take p l) : Nat) : Int) * 10) + ((((Utf8.decode ⟨l.toArray⟩ p).1 : Nat) : Int) - 48)) > 2147483648)) (ht := fun h19 => ?_) (hf := fun h19 => ?_)
              · have ph19 := of_decide_eq_true h19
                refine WC.seq ?_
                refine WC.region ?_
                refine WL.op (d := 2) (.int .i64 0) (k := ?_)
                refine WL.op (d := 3) (.bool false) (k := ?_)
                refine WL.nil ?_
                refine WX.seqN ?_
                refine WC.ret ?_
                refine WX.blockR ?_
                refine WX.seqR ?_
                refine WX.blockR ?_
                refine WX.seqR ?_
                refine WX.ret (rs := [.tmp 2, .tmp 3]) [.int .i64 0, .bool false] (.tuple #[.int .i64 0, .bool false]) ⟨(by kernel_rfl), (by kernel_rfl), trivial⟩ (k := ?_)
                obtain ⟨e1_, e2_⟩ := num_no (l := l) (fun k_ => by have q_ := dv_take l (p + 1); have q2_ := k_.2.2.2; have q3_ := dv_succ ph13; rcases rune_at ph13 with ⟨g1_, g2_, g3_⟩ | ⟨g1_, g2_⟩ <;> omega)
                exact ⟨by rw [e1_, e2_]; rfl, K⟩
              · have ph19 := of_decide_eq_false h19
                refine WC.skip ?_
                refine WX.blockN ?_
                obtain ⟨g1_, g2_, g3_⟩ := (rune_at ph13).resolve_right (fun k_ => k_.2.elim (fun k_ => by omega) (fun k_ => by omega))
                rw [g3_] at hb15
                have d10_ : 48 ≤ l[p].toNat := by omega
                refine WX.rw (t := 4) (v := .int .i64 ((dv (List.take (p + 1) l) : Nat) : Int)) (congrArg (Value.int .i64) (show ((((dv (List.take p l) : Nat) : Int) * 10) + ((((Utf8.decode ⟨l.toArray⟩ p).1 : Nat) : Int) - 48)) = ((dv (List.take (p + 1) l) : Nat) : Int) from by rw [dv_succ ph13]; omega)) (k := ?_)
                have dq_ := dv_succ ph13
                refine WX.round (p + 1) (by show (l.length - (p + 1)) < (l.length - p); omega) ⟨(by kernel_rfl), (by kernel_rfl), (by kernel_rfl), (by kernel_rfl), (by kernel_rfl), (by kernel_rfl), (by kernel_rfl), (by kernel_rfl), (by kernel_rfl), (by kernel_rfl), (by kernel_rfl), (by kernel_rfl), (by kernel_rfl), (by kernel_rfl), (by kernel_rfl), (by kernel_rfl), trivial⟩ ⟨K, hb15, (by omega), (all_succ ph13 hd g1_), (by omega)⟩
        · have ph13 := of_decide_eq_false h13
          refine WL.nextS0 (d := 21) (b := b5) (pos := p) (l := l) hb12 ph13 (by kernel_rfl) (by kernel_rfl) (by kernel_rfl) ?_
          refine WL.op (d := 22) (.bool false) (k := ?_)
          refine WL.nil ?_
          refine WX.seqN ?_
          refine WC.seq ?_
          refine WC.condF (k := ?_)
          refine WC.exit ?_
          refine WX.seqE ?_
          refine WX.seqE ?_
          refine WX.blockE ?_
          refine WX.seqN ?_
          refine WC.seq ?_
          refine WC.region ?_
          refine WL.op (d := 38) (.int .i64 ((dv (List.take p l) : Nat) : Int)) (k := ?_)
          refine WL.op (d := 2) (.int .i64 ((dv (List.take p l) : Nat) : Int)) (k := ?_)
          refine WL.op (d := 3) (.bool true) (k := ?_)
          refine WL.nil ?_
          refine WX.seqN ?_
          refine WC.ret ?_
          refine WX.ret (rs := [.tmp 2, .tmp 3]) [.int .i64 ((dv (List.take p l) : Nat) : Int), .bool true] (.tuple #[.int .i64 ((dv (List.take p l) : Nat) : Int), .bool true]) ⟨(by kernel_rfl), (by kernel_rfl), trivial⟩ (k := ?_)
          have e_ : List.take p l = l := List.take_of_length_le (by omega)
          rw [e_] at hd hv
          obtain ⟨e1_, e2_⟩ := num_yes (l := l) ⟨ph1, (fun k_ => ph4 (by show ((l.getD 0 0).toNat : Int) = 48; rw [k_.2]; rfl)), hd, hv⟩
          exact ⟨by rw [e1_, e2_, e_], K⟩
    · have ph2 := of_decide_eq_false h2
      refine WL.rw (t := 13) (v := .bool false) (congrArg Value.bool h2) (k := ?_)
      refine WL.skip (d := 14) (k := ?_)
      refine WL.skip (d := 15) (k := ?_)
      refine WL.skip (d := 16) (k := ?_)
      refine WL.op (d := 17) (.bool false) (k := ?_)
      refine WL.op (d := 18) (.bool false) (k := ?_)
      refine WL.nil ?_
      refine WX.seqN ?_
      refine WC.condF (k := ?_)
      refine WC.skip ?_
      refine WX.seqN ?_
      refine WC.seq ?_
      refine WC.region ?_
      refine WL.op (d := 4) (.int .i64 0) (k := ?_)
      refine WL.nil ?_
      refine WX.seqN ?_
      refine WC.seq ?_
      refine WC.seq ?_
      refine WC.region ?_
      refine WL.op (d := 19) (.string ⟨(l).toArray⟩) (k := ?_)
      refine WL.rangeS (d := 20) (l := l) (by kernel_rfl) (by kernel_rfl) (by kernel_rfl) (by kernel_rfl) (fun b20 w21 g22 hb23 k24 => ?_)
      have z25 := Nat.le_trans K.size g22
      replace K := K.trans (k24.any _)
      refine WL.nil ?_
      refine WX.seqN ?_
      refine WC.block ?_
      refine WC.rw (t := 4) (v := .int .i64 ((dv (List.take 0 l) : Nat) : Int)) (rfl) (k := ?_)
      refine WC.loop (ι := Nat) (fun (p : Nat) => [(0, .string ⟨(l).toArray⟩), (7, .string ⟨(l).toArray⟩), (8, .bool (decide (l = []))), (9, .bool false), (10, .string ⟨(l).toArray⟩), (11, .int .i64 (l.length : Int)), (12, .bool (decide ((l.length : Int) > 1))), (13, .bool false), (17, .bool false), (18, .bool false), (19, .string ⟨(l).toArray⟩), (20, .pointer (some ⟨b20, 0, none⟩)), (4, .int .i64 ((dv (List.take p l) : Nat) : Int))]) (fun (p : Nat) (w_ : World) => (Keeps (fun _ => False) w w_) ∧ (w_.heap[b20]? = some (.stringIter ⟨l.toArray⟩ p)) ∧ (p ≤ l.length) ∧ (∀ c ∈ l.take p, digB c = true) ∧ (dv (l.take p) ≤ 2147483648)) (fun (p : Nat) => (l.length - p)) 0 ⟨(by kernel_rfl), (by kernel_rfl), (by kernel_rfl), (by kernel_rfl), (by kernel_rfl), (by kernel_rfl), (by kernel_rfl), (by kernel_rfl), (by kernel_rfl), (by kernel_rfl), (by kernel_rfl), (by kernel_rfl), (by kernel_rfl), trivial⟩ ⟨K, hb23, (Nat.zero_le _), (by simp), (by simp [dv])⟩ ?_
      rintro p w26 ⟨K, hb27, hp, hd, hv⟩
      refine WC.seq ?_
      refine WC.region ?_
      refine bsplit (decide (p < List.length l)) (fun h28 => ?_) (fun h28 => ?_)
      · have ph28 := of_decide_eq_true h28
        refine WL.nextS (d := 21) (b := b20) (pos := p) (l := l) hb27 ph28 (by kernel_rfl) (by kernel_rfl) (by kernel_rfl) (fun w29 hb30 k31 => ?_)
        replace K := K.trans' k31 (fun i hi e => absurd (e ▸ hi) (Nat.not_lt.2 z25))
        clear hb27
        have dl_ := decode_le ⟨l.toArray⟩ p
        refine WL.op (d := 22) (.bool true) (k := ?_)
        refine WL.nil ?_
        refine WX.seqN ?_
        refine WC.seq ?_
        refine WC.condT (k := ?_)
        refine WC.skip ?_
        refine WX.seqN ?_
        refine WC.block ?_
        refine WC.seq ?_
        refine WC.region ?_
        refine WL.op (d := 23) (.int .i32 (((Utf8.decode ⟨l.toArray⟩ p).1 : Nat) : Int)) (k := ?_)
        refine WL.op (d := 6) (.int .i32 (((Utf8.decode ⟨l.toArray⟩ p).1 : Nat) : Int)) (k := ?_)
        refine WL.nil ?_
        refine WX.seqN ?_
        refine WC.seq ?_
        refine WC.seq ?_
        refine WC.region ?_
        refine WL.op (d := 24) (.int .i32 (((Utf8.decode ⟨l.toArray⟩ p).1 : Nat) : Int)) (k := ?_)
        refine WL.op (d := 25) (.bool (decide ((((Utf8.decode ⟨l.toArray⟩ p).1 : Nat) : Int) < 48))) (k := ?_)
        refine WL.op (d := 26) (.bool (decide ((((Utf8.decode ⟨l.toArray⟩ p).1 : Nat) : Int) < 48))) (k := ?_)
        refine bsplit (decide ((((Utf8.decode ⟨l.toArray⟩ p).1 : Nat) : Int) < 48)) (fun h32 => ?_) (fun h32 => ?_)
        · have ph32 := of_decide_eq_true h32
          refine WL.rw (t := 26) (v := .bool true) (congrArg Value.bool h32) (k := ?_)
          refine WL.skip (d := 27) (k := ?_)
          refine WL.skip (d := 28) (k := ?_)
          refine WL.op (d := 29) (.bool true) (k := ?_)
          refine WL.nil ?_
          refine WX.seqN ?_
          refine WC.condT (k := ?_)
          refine WC.seq ?_
          refine WC.region ?_
          refine WL.op (d := 2) (.int .i64 0) (k := ?_)
          refine WL.op (d := 3) (.bool false) (k := ?_)
          refine WL.nil ?_
          refine WX.seqN ?_
          refine WC.ret ?_
          refine WX.seqR ?_
          refine WX.blockR ?_
          refine WX.seqR ?_
          refine WX.blockR ?_
          refine WX.seqR ?_
          refine WX.ret (rs := [.tmp 2, .tmp 3]) [.int .i64 0, .bool false] (.tuple #[.int .i64 0, .bool false]) ⟨(by kernel_rfl), (by kernel_rfl), trivial⟩ (k := ?_)
          obtain ⟨e1_, e2_⟩ := num_no (l := l) (not_num_at ph28 ((rune_at ph28).elim (fun g_ => by obtain ⟨g1_, g2_, g3_⟩ := g_; exfalso; unfold digB at g1_; simp only [Bool.and_eq_true, decide_eq_true_eq] at g1_; omega) (fun g_ => g_.1)))
          exact ⟨by rw [e1_, e2_]; rfl, K⟩
        · have ph32 := of_decide_eq_false h32
          refine WL.rw (t := 26) (v := .bool false) (congrArg Value.bool h32) (k := ?_)
          refine WL.op (d := 27) (.int .i32 (((Utf8.decode ⟨l.toArray⟩ p).1 : Nat) : Int)) (k := ?_)
          refine WL.op (d := 28) (.bool (decide ((((Utf8.decode ⟨l.toArray⟩ p).1 : Nat) : Int) > 57))) (k := ?_)
          refine WL.op (d := 29) (.bool (decide ((((Utf8.decode ⟨l.toArray⟩ p).1 : Nat) : Int) > 57))) (k := ?_)
          refine WL.nil ?_
          refine WX.seqN ?_
          refine WC.cond (b := decide ((((Utf8.decode ⟨l.toArray⟩ p).1 : Nat) : Int) > 57)) (ht := fun h33 => ?_) (hf := fun h33 => ?_)
          · have ph33 := of_decide_eq_true h33
            refine WC.seq ?_
            refine WC.region ?_
            refine WL.op (d := 2) (.int .i64 0) (k := ?_)
            refine WL.op (d := 3) (.bool false) (k := ?_)
            refine WL.nil ?_
            refine WX.seqN ?_
            refine WC.ret ?_
            refine WX.seqR ?_
            refine WX.blockR ?_
            refine WX.seqR ?_
            refine WX.blockR ?_
            refine WX.seqR ?_
            refine WX.ret (rs := [.tmp 2, .tmp 3]) [.int .i64 0, .bool false] (.tuple #[.int .i64 0, .bool false]) ⟨(by kernel_rfl), (by kernel_rfl), trivial⟩ (k := ?_)
            obtain ⟨e1_, e2_⟩ := num_no (l := l) (not_num_at ph28 ((rune_at ph28).elim (fun g_ => by obtain ⟨g1_, g2_, g3_⟩ := g_; exfalso; unfold digB at g1_; simp only [Bool.and_eq_true, decide_eq_true_eq] at g1_; omega) (fun g_ => g_.1)))
            exact ⟨by rw [e1_, e2_]; rfl, K⟩
          · have ph33 := of_decide_eq_false h33
            refine WC.skip ?_
            refine WX.seqN ?_
            refine WC.seq ?_
            refine WC.region ?_
            refine WL.op (d := 30) (.int .i64 ((dv (List.take p l) : Nat) : Int)) (k := ?_)
            refine WL.opE (d := 31) (.int .i64 (IntKind.i64.wrap (((dv (List.take p l) : Nat) : Int) * 10))) (v := .int .i64 (((dv (List.take p l) : Nat) : Int) * 10)) (congrArg (Value.int .i64) (IntWalk.i64_in _ (by omega))) (k := ?_)
            refine WL.op (d := 32) (.int .i32 (((Utf8.decode ⟨l.toArray⟩ p).1 : Nat) : Int)) (k := ?_)
            refine WL.opE (d := 33) (.int .i32 (IntKind.i32.wrap ((((Utf8.decode ⟨l.toArray⟩ p).1 : Nat) : Int) - 48))) (v := .int .i32 ((((Utf8.decode ⟨l.toArray⟩ p).1 : Nat) : Int) - 48)) (congrArg (Value.int .i32) (IntWalk.i32_in _ (by omega))) (k := ?_)
            refine WL.opE (d := 34) (.int .i64 (IntKind.i64.wrap ((((Utf8.decode ⟨l.toArray⟩ p).1 : Nat) : Int) - 48))) (v := .int .i64 ((((Utf8.decode ⟨l.toArray⟩ p).1 : Nat) : Int) - 48)) (congrArg (Value.int .i64) (IntWalk.i64_in _ (by omega))) (k := ?_)
            refine WL.opE (d := 35) (.int .i64 (IntKind.i64.wrap ((((dv (List.take p l) : Nat) : Int) * 10) + ((((Utf8.decode ⟨l.toArray⟩ p).1 : Nat) : Int) - 48)))) (v := .int .i64 ((((dv (List.take p l) : Nat) : Int) * 10) + ((((Utf8.decode ⟨l.toArray⟩ p).1 : Nat) : Int) - 48))) (congrArg (Value.int .i64) (IntWalk.i64_in _ (by omega))) (k := ?_)
            refine WL.op (d := 4) (.int .i64 ((((dv (List.take p l) : Nat) : Int) * 10) + ((((Utf8.decode ⟨l.toArray⟩ p).1 : Nat) : Int) - 48))) (k := ?_)
            refine WL.nil ?_
            refine WX.seqN ?_
            refine WC.seq ?_
            refine WC.region ?_
            refine WL.op (d := 36) (.int .i64 ((((dv (List.take p l) : Nat) : Int) * 10) + ((((Utf8.decode ⟨l.toArray⟩ p).1 : Nat) : Int) - 48))) (k := ?_)
            refine WL.op (d := 37) (.bool (decide (((((dv (List.take p l) : Nat) : Int) * 10) + ((((Utf8.decode ⟨l.toArray⟩ p).1 : Nat) : Int) - 48)) > 2147483648))) (k := ?_)
            refine WL.nil ?_
            refine WX.seqN ?_
            refine WC.cond (b := decide (((((dv (List.take p l) : Nat) : Int) * 10) + ((((Utf8.decode ⟨l.toArray⟩ p).1 : Nat) : Int) - 48)) > 2147483648)) (ht := fun h34 => ?_) (hf := fun h34 => ?_)
            · have ph34 := of_decide_eq_true h34
              refine WC.seq ?_
              refine WC.region ?_
              refine WL.op (d := 2) (.int .i64 0) (k := ?_)
              refine WL.op (d := 3) (.bool false) (k := ?_)
              refine WL.nil ?_
              refine WX.seqN ?_
              refine WC.ret ?_
              refine WX.blockR ?_
              refine WX.seqR ?_
              refine WX.blockR ?_
              refine WX.seqR ?_
              refine WX.ret (rs := [.tmp 2, .tmp 3]) [.int .i64 0, .bool false] (.tuple #[.int .i64 0, .bool false]) ⟨(by kernel_rfl), (by kernel_rfl), trivial⟩ (k := ?_)
              obtain ⟨e1_, e2_⟩ := num_no (l := l) (fun k_ => by have q_ := dv_take l (p + 1); have q2_ := k_.2.2.2; have q3_ := dv_succ ph28; rcases rune_at ph28 with ⟨g1_, g2_, g3_⟩ | ⟨g1_, g2_⟩ <;> omega)
              exact ⟨by rw [e1_, e2_]; rfl, K⟩
            · have ph34 := of_decide_eq_false h34
              refine WC.skip ?_
              refine WX.blockN ?_
              obtain ⟨g1_, g2_, g3_⟩ := (rune_at ph28).resolve_right (fun k_ => k_.2.elim (fun k_ => by omega) (fun k_ => by omega))
              rw [g3_] at hb30
              have d10_ : 48 ≤ l[p].toNat := by omega
              refine WX.rw (t := 4) (v := .int .i64 ((dv (List.take (p + 1) l) : Nat) : Int)) (congrArg (Value.int .i64) (show ((((dv (List.take p l) : Nat) : Int) * 10) + ((((Utf8.decode ⟨l.toArray⟩ p).1 : Nat) : Int) - 48)) = ((dv (List.take (p + 1) l) : Nat) : Int) from by rw [dv_succ ph28]; omega)) (k := ?_)
              have dq_ := dv_succ ph28
              refine WX.round (p + 1) (by show (l.length - (p + 1)) < (l.length - p); omega) ⟨(by kernel_rfl), (by kernel_rfl), (by kernel_rfl), (by kernel_rfl), (by kernel_rfl), (by kernel_rfl), (by kernel_rfl), (by kernel_rfl), (by kernel_rfl), (by kernel_rfl), (by kernel_rfl), (by kernel_rfl), (by kernel_rfl), trivial⟩ ⟨K, hb30, (by omega), (all_succ ph28 hd g1_), (by omega)⟩
      · have ph28 := of_decide_eq_false h28
        refine WL.nextS0 (d := 21) (b := b20) (pos := p) (l := l) hb27 ph28 (by kernel_rfl) (by kernel_rfl) (by kernel_rfl) ?_
        refine WL.op (d := 22) (.bool false) (k := ?_)
        refine WL.nil ?_
        refine WX.seqN ?_
        refine WC.seq ?_
        refine WC.condF (k := ?_)
        refine WC.exit ?_
        refine WX.seqE ?_
        refine WX.seqE ?_
        refine WX.blockE ?_
        refine WX.seqN ?_
        refine WC.seq ?_
        refine WC.region ?_
        refine WL.op (d := 38) (.int .i64 ((dv (List.take p l) : Nat) : Int)) (k := ?_)
        refine WL.op (d := 2) (.int .i64 ((dv (List.take p l) : Nat) : Int)) (k := ?_)
        refine WL.op (d := 3) (.bool true) (k := ?_)
        refine WL.nil ?_
        refine WX.seqN ?_
        refine WC.ret ?_
        refine WX.ret (rs := [.tmp 2, .tmp 3]) [.int .i64 ((dv (List.take p l) : Nat) : Int), .bool true] (.tuple #[.int .i64 ((dv (List.take p l) : Nat) : Int), .bool true]) ⟨(by kernel_rfl), (by kernel_rfl), trivial⟩ (k := ?_)
        have e_ : List.take p l = l := List.take_of_length_le (by omega)
        rw [e_] at hd hv
        obtain ⟨e1_, e2_⟩ := num_yes (l := l) ⟨ph1, (fun k_ => by omega), hd, hv⟩
        exact ⟨by rw [e1_, e2_, e_], K⟩
end Go.Proofs.YtoeinhlmkpgjhaaGreatDoor
namespace Go.Proofs.YtoeinhlmkpgjhaaGreatDoor
open Go.RowKit
set_option linter.unusedVariables false
set_option linter.unusedSimpArgs false
set_option maxRecDepth 100000 in
set_option maxHeartbeats 4000000 in
theorem lnParse2_c (x : Nat) (hx : x ≤ 1114111) (w : World) : Calls Tryz.prog 22 #[.int .i32 (x : Int)] w fun e w' => e = .returned (.bool (sp32 x)) ∧ Adds w w' := by
  have K : Keeps (fun _ => False) w w := Keeps.refl _ w
  refine Calls.start Tryz.func22 rfl (by kernel_rfl) ?_
  refine WC.seq ?_
  refine WC.region ?_
  refine WL.op (d := 2) (.bool false) (k := ?_)
  refine WL.nil ?_
  refine WX.seqN ?_
  refine WC.seq ?_
  refine WC.region ?_
  refine WL.op (d := 3) (.int .i32 (x : Int)) (k := ?_)
  refine WL.op (d := 4) (.bool ((x : Int) == 32)) (k := ?_)
  refine WL.op (d := 2) (.bool ((x : Int) == 32)) (k := ?_)
  refine WL.nil ?_
  refine WX.seqN ?_
  refine WC.ret ?_
  refine WX.ret (rs := [.tmp 2]) [.bool ((x : Int) == 32)] (.bool ((x : Int) == 32)) ⟨(by kernel_rfl), trivial⟩ (k := ?_)
  exact ⟨ret_bool (by unfold sp32; rw [Bool.eq_iff_iff]; simp; omega), K⟩
end Go.Proofs.YtoeinhlmkpgjhaaGreatDoor
namespace Go.Proofs.YtoeinhlmkpgjhaaGreatDoor
open Go.RowKit
set_option linter.unusedVariables false
set_option linter.unusedSimpArgs false
theorem lItoa_c {n : Int} {w : World} (h : GB w) (h0 : -9223372036854775808 ≤ n) (h1 : n ≤ 9223372036854775807) : Calls Tryz.prog 60 #[.int .i64 n, .int .i64 10] w fun e w' => e = .returned (.string ⟨(Lib.itoa n).toArray⟩) ∧ Adds w w' := by
  refine (Tryz.strconv_FormatInt_10 n h0 h1 w h.2.1).mono ?_
  rintro e w' ⟨rfl, k, os, rfl⟩
  refine ⟨rfl, (adds_drew w k).trans ?_⟩
  exact ⟨rfl, rfl, rfl, by show _ ≤ (_ ++ os).size; simp, fun i hi _ => by show (_ ++ os)[i]? = _; rw [Array.getElem?_append_left hi]⟩
theorem lCut_c {l : List UInt8} {c : UInt8} {w : World} (h : GB w) (hl : l.length < 4294967281) : Calls Tryz.prog 28 #[.string ⟨l.toArray⟩, .string ⟨#[c]⟩] w fun e w' => e = .returned (.tuple #[.string ⟨(Lib.cut l [c]).1.toArray⟩, .string ⟨(Lib.cut l [c]).2.1.toArray⟩, .bool (Lib.cut l [c]).2.2]) ∧ Adds w w' := by
  obtain ⟨⟨m, hm⟩, _⟩ := h
  refine (Tryz.strings_Cut ⟨l.toArray⟩ ⟨#[c]⟩ m w hl hm).mono ?_
  rintro e w' ⟨rfl, n, rfl⟩
  exact ⟨rfl, adds_drew w n⟩
theorem cut_le1 (l : List UInt8) (c : UInt8) : (Lib.cut l [c]).1.length ≤ l.length := by
  unfold Lib.cut; split
  · simp; omega
  · simp
theorem cut_le2 (l : List UInt8) (c : UInt8) : (Lib.cut l [c]).2.1.length ≤ l.length := by
  unfold Lib.cut; split
  · simp
  · simp
theorem lFields_c {l : List UInt8} {w : World} (hl : l.length ≤ 4294967296) : Calls Tryz.prog 21 #[.string ⟨l.toArray⟩, .func (.func 22) #[] #[]] w fun e w' => ∃ A cap, e = .returned (.slice A (wordsL l).length cap) ∧ OwAt strC 1 9 A cap (wordsL l) w' ∧ (∀ i, blk A = some i → w.heap.size ≤ i) ∧ Adds w w' := by
  have hp : PredGrows Tryz.prog 22 #[] sp32 w := fun W x hx hb => (lnParse2_c x hx W).mono fun e w' h => ⟨h.1, h.2.below⟩
  refine (Tryz.strings_FieldsFunc_grows 22 #[] (fun _ _ => by kernel_rfl) sp32 ⟨l.toArray⟩ w hl hp).mono ?_
  rintro e w' ⟨A, rfl, hA, ho, hb⟩
  have hw := fields_words l
  have hlen : (Lib.goFieldsP sp32 ⟨l.toArray⟩).length = (wordsL l).length := by rw [← hw, List.length_map]
  refine ⟨_, _, by rw [hlen], ?_, ?_, Adds.of_below hb⟩
  · unfold OwAt
    rw [← hw, ← map_str]
    rw [List.length_map]
    obtain ⟨h1, h2⟩ := ho
    refine ⟨h1, ?_⟩
    rcases h2 with h2 | ⟨g, cap, cur, e1, e2, e3, e4⟩
    · exact absurd h2.1 (by simp)
    · rw [hlen] at e1
      refine .inr ⟨g, cap, cur, ?_, Nat.zero_le _, e3, e4⟩
      rw [hlen]; exact e1
  · intro i hi
    simp [blk] at hi
    omega
def joinL (c : UInt8) (xs : List (List UInt8)) : List UInt8 := Lib.join xs [c]
theorem lJoin_c {A : Option Addr} {cap : Nat} {xs : List (List UInt8)} {c : UInt8} {w : World} (h : SlAt strC 1 9 A xs w) (hc : xs.length ≤ cap) (hn : xs.length ≤ 140737488355328) (hl : (joinL c xs).length ≤ 140737488355328) : Calls Tryz.prog 38 #[.slice A xs.length cap, .string ⟨#[c]⟩] w fun e w' => e = .returned (.string ⟨(joinL c xs).toArray⟩) ∧ Adds w w' := by
  rcases h with rfl | ⟨b, o, cs, E', fz, rfl, hb, hs, hcell⟩
  · refine (Tryz.strings_Join_none A cap ⟨#[c]⟩ w).mono ?_
    rintro e w' ⟨rfl, rfl⟩
    exact ⟨rfl, Keeps.refl _ _⟩
  · have hm : (xs.map fun l => (⟨l.toArray⟩ : ByteArray)).map (·.data.toList) = xs := by
      rw [List.map_map]
      conv => rhs; rw [← List.map_id xs]
      exact List.map_congr_left fun x _ => rfl
    have hj := Tryz.strings_Join b o cap (xs.map fun l => (⟨l.toArray⟩ : ByteArray)) ⟨#[c]⟩ w (fun j x hx => by
      rw [List.getElem?_map] at hx
      cases hr : xs[j]? with
      | none => rw [hr] at hx; cases hx
      | some r =>
        rw [hr] at hx
        simp only [Option.map_some, Option.some.injEq] at hx
        subst hx
        have h1 := hcell j r hr
        have hlt : o + j < cs.size := by
          have := (List.getElem?_eq_some_iff.1 hr).1; omega
        have h2 : cs[o + j]? = some (.string ⟨r.toArray⟩) := by
          have h3 := congrArg (fun l => l[0]?) h1
          simp only [List.getElem?_take, Nat.mul_one, List.getElem?_drop, Nat.add_zero, Nat.zero_lt_one, if_true] at h3
          rw [← Array.getElem?_toList]
          exact h3
        unfold World.cell?
        simp [hb, h2]) (lt_of_heap hb) (by rw [List.length_map]; exact hn) (by rw [List.length_map]; exact hc) (by rw [hm]; exact hl)
    rw [hm, List.length_map] at hj
    refine hj.mono ?_
    rintro e w' ⟨rfl, k⟩
    exact ⟨rfl, Adds.of_below k⟩
end Go.Proofs.YtoeinhlmkpgjhaaGreatDoor
namespace Go.Proofs.YtoeinhlmkpgjhaaGreatDoor
open Go.RowKit
set_option linter.unusedVariables false
structure GTask where
  (id c d t m : Int)
deriving DecidableEq
structure GOp where
  kind : Int
  task : GTask
  sv : Bool
  (id c m : Int)
deriving DecidableEq
def GTask.zero : GTask := ⟨0, 0, 0, 0, 0⟩
def GOp.zero : GOp := ⟨0, ⟨0, 0, 0, 0, 0⟩, false, 0, 0, 0⟩
abbrev GTask.val (t : GTask) : Value := .agg #[.int .i64 t.id, .int .i64 t.c, .int .i64 t.d, .int .i64 t.t, .int .i64 t.m]
abbrev GOp.val (o : GOp) : Value := .agg #[.int .i64 o.kind, .int .i64 o.task.id, .int .i64 o.task.c, .int .i64 o.task.d, .int .i64 o.task.t, .int .i64 o.task.m, .bool o.sv, .int .i64 o.id, .int .i64 o.c, .int .i64 o.m]
def GOp.bare (o : GOp) : GOp :=
  if o.kind = 1 then ⟨1, o.task, o.sv, 0, 0, 0⟩
  else if o.kind = 2 then ⟨2, ⟨0, 0, 0, 0, 0⟩, false, o.id, 0, 0⟩
  else if o.kind = 3 then ⟨3, ⟨0, 0, 0, 0, 0⟩, false, o.id, o.c, 0⟩
  else if o.kind = 4 then ⟨4, ⟨0, 0, 0, 0, 0⟩, false, 0, 0, o.m⟩
  else ⟨o.kind, ⟨0, 0, 0, 0, 0⟩, false, 0, 0, 0⟩
def ofV (o : GOp) : Value :=
  if o.kind = 1 then .iface 122 (.agg #[.int .i64 o.task.id, .int .i64 o.task.c, .int .i64 o.task.d, .int .i64 o.task.t, .int .i64 o.task.m, .bool o.sv])
  else if o.kind = 2 then .iface 124 (.agg #[.int .i64 o.id])
  else if o.kind = 3 then .iface 126 (.agg #[.int .i64 o.id, .int .i64 o.c])
  else if o.kind = 4 then .iface 128 (.agg #[.int .i64 o.m])
  else .iface 130 (.agg #[.int .i64 o.kind])
theorem pOf_c (o : GOp) (w : World) : Calls Tryz.prog 72 #[o.val] w fun e w' => e = .returned (ofV o) ∧ Adds w w' := by
  obtain ⟨k, ⟨a, b, c, d, e⟩, sv, id, cc, m⟩ := o
  have K := Keeps.refl (fun _ => False) w
  by_cases h1 : k = 1
  · simp only [ofV, if_pos h1]
    subst h1
    go_enter Tryz.func72, Tryz.ntmps72
    go_wp2
    go_ret
    exact ⟨rfl, K.alloc _⟩
  have b1 : (k == 1) = false := by simpa using h1
  by_cases h2 : k = 2
  · subst h2
    simp only [ofV]
    go_enter Tryz.func72, Tryz.ntmps72
    go_wp2
    go_ret
    exact ⟨rfl, K.alloc _⟩
  have b2 : (k == 2) = false := by simpa using h2
  by_cases h3 : k = 3
  · subst h3
    simp only [ofV]
    go_enter Tryz.func72, Tryz.ntmps72
    go_wp2
    go_ret
    exact ⟨rfl, K.alloc _⟩
  have b3 : (k == 3) = false := by simpa using h3
  by_cases h4 : k = 4
  · subst h4
    simp only [ofV]
    go_enter Tryz.func72, Tryz.ntmps72
    go_wp2
    go_ret
    exact ⟨rfl, K.alloc _⟩
  have b4 : (k == 4) = false := by simpa using h4
  simp only [ofV, if_neg h1, if_neg h2, if_neg h3, if_neg h4]
  clear h1 h2 h3 h4
  go_enter Tryz.func72, Tryz.ntmps72
  go_wp2
  go_ret
  exact ⟨rfl, K.alloc _⟩
theorem admitOp_c (a b c d e : Int) (sv : Bool) (w : World) : Calls Tryz.prog 115 #[.agg #[.int .i64 a, .int .i64 b, .int .i64 c, .int .i64 d, .int .i64 e, .bool sv]] w fun r w' => r = .returned (GOp.val ⟨1, ⟨a, b, c, d, e⟩, sv, 0, 0, 0⟩) ∧ Adds w w' := by
  have K := Keeps.refl (fun _ => False) w
  go_enter Tryz.func115, Tryz.ntmps115
  go_wp2
  go_returns
  exact ⟨rfl, by (repeat (first | assumption | exact Keeps.refl _ _ | exact Keeps.trans_alloc (by assumption) | (refine Keeps.alloc ?_ _) | (refine Keeps.drew ?_) | (refine Keeps.drewN ?_ _) | (refine Keeps.setCell ?_ _ _ (fun h => by simp at h; try omega)) | (refine Keeps.setCell ?_ _ _ (fun h => absurd h (by simp; try omega)))))⟩
theorem removeOp_c (id : Int) (w : World) : Calls Tryz.prog 118 #[.agg #[.int .i64 id]] w fun r w' => r = .returned (GOp.val ⟨2, ⟨0, 0, 0, 0, 0⟩, false, id, 0, 0⟩) ∧ Adds w w' := by
  have K := Keeps.refl (fun _ => False) w
  go_enter Tryz.func118, Tryz.ntmps118
  go_wp2
  go_returns
  exact ⟨rfl, by (repeat (first | assumption | exact Keeps.refl _ _ | exact Keeps.trans_alloc (by assumption) | (refine Keeps.alloc ?_ _) | (refine Keeps.drew ?_) | (refine Keeps.drewN ?_ _) | (refine Keeps.setCell ?_ _ _ (fun h => by simp at h; try omega)) | (refine Keeps.setCell ?_ _ _ (fun h => absurd h (by simp; try omega)))))⟩
theorem resizeOp_c (id c : Int) (w : World) : Calls Tryz.prog 121 #[.agg #[.int .i64 id, .int .i64 c]] w fun r w' => r = .returned (GOp.val ⟨3, ⟨0, 0, 0, 0, 0⟩, false, id, c, 0⟩) ∧ Adds w w' := by
  have K := Keeps.refl (fun _ => False) w
  go_enter Tryz.func121, Tryz.ntmps121
  go_wp2
  go_returns
  exact ⟨rfl, by (repeat (first | assumption | exact Keeps.refl _ _ | exact Keeps.trans_alloc (by assumption) | (refine Keeps.alloc ?_ _) | (refine Keeps.drew ?_) | (refine Keeps.drewN ?_ _) | (refine Keeps.setCell ?_ _ _ (fun h => by simp at h; try omega)) | (refine Keeps.setCell ?_ _ _ (fun h => absurd h (by simp; try omega)))))⟩
theorem modeOp_c (m : Int) (w : World) : Calls Tryz.prog 124 #[.agg #[.int .i64 m]] w fun r w' => r = .returned (GOp.val ⟨4, ⟨0, 0, 0, 0, 0⟩, false, 0, 0, m⟩) ∧ Adds w w' := by
  have K := Keeps.refl (fun _ => False) w
  go_enter Tryz.func124, Tryz.ntmps124
  go_wp2
  go_returns
  exact ⟨rfl, by (repeat (first | assumption | exact Keeps.refl _ _ | exact Keeps.trans_alloc (by assumption) | (refine Keeps.alloc ?_ _) | (refine Keeps.drew ?_) | (refine Keeps.drewN ?_ _) | (refine Keeps.setCell ?_ _ _ (fun h => by simp at h; try omega)) | (refine Keeps.setCell ?_ _ _ (fun h => absurd h (by simp; try omega)))))⟩
theorem otherOp_c (k : Int) (w : World) : Calls Tryz.prog 127 #[.agg #[.int .i64 k]] w fun r w' => r = .returned (GOp.val ⟨k, ⟨0, 0, 0, 0, 0⟩, false, 0, 0, 0⟩) ∧ Adds w w' := by
  have K := Keeps.refl (fun _ => False) w
  go_enter Tryz.func127, Tryz.ntmps127
  go_wp2
  go_returns
  exact ⟨rfl, by (repeat (first | assumption | exact Keeps.refl _ _ | exact Keeps.trans_alloc (by assumption) | (refine Keeps.alloc ?_ _) | (refine Keeps.drew ?_) | (refine Keeps.drewN ?_ _) | (refine Keeps.setCell ?_ _ _ (fun h => by simp at h; try omega)) | (refine Keeps.setCell ?_ _ _ (fun h => absurd h (by simp; try omega)))))⟩
end Go.Proofs.YtoeinhlmkpgjhaaGreatDoor
namespace Go.Proofs.YtoeinhlmkpgjhaaGreatDoor
open Go.RowKit
set_option linter.unusedVariables false
set_option linter.unusedSimpArgs false
def GTask.ok (t : GTask) : Prop := 0 ≤ t.id ∧ t.id ≤ 1023 ∧ 0 < t.c ∧ t.c ≤ t.d ∧ t.d ≤ t.t ∧ t.t ≤ 2147483648 ∧ 0 < t.m ∧ t.m ≤ 15
instance (t : GTask) : Decidable t.ok := by unfold GTask.ok; infer_instance
theorem pCheck_c (t : GTask) (w : World) : Calls Tryz.prog 30 #[t.val] w fun e w' => e = .returned (.bool (decide (t.ok))) ∧ Adds w w' := by
  obtain ⟨a, b, c, d, e⟩ := t
  have K := Keeps.refl (fun _ => False) w
  go_enter Tryz.func30, Tryz.ntmps30
  go_wp2
  all_goals (go_ret; refine ⟨ret_bool ?_, by (repeat (first | assumption | exact Keeps.refl _ _ | exact Keeps.trans_alloc (by assumption) | (refine Keeps.alloc ?_ _) | (refine Keeps.drew ?_) | (refine Keeps.drewN ?_ _) | (refine Keeps.setCell ?_ _ _ (fun h => by simp at h; try omega)) | (refine Keeps.setCell ?_ _ _ (fun h => absurd h (by simp; try omega)))))⟩)
  all_goals (rw [Bool.eq_iff_iff]; simp only [Bool.and_eq_true, Bool.or_eq_true, decide_eq_true_eq, Bool.false_eq_true, false_iff, true_iff, iff_true, iff_false] at *; (try simp only [GTask.ok]); omega)
theorem u09Check_c (t : GTask) (w : World) : Calls Tryz.prog 32 #[t.val] w fun e w' => e = .returned (.bool (decide (t.ok))) ∧ Adds w w' := by
  obtain ⟨a, b, c, d, e⟩ := t
  have K := Keeps.refl (fun _ => False) w
  go_enter Tryz.func32, Tryz.ntmps32
  go_wp2
  all_goals (go_ret; refine ⟨ret_bool ?_, by (repeat (first | assumption | exact Keeps.refl _ _ | exact Keeps.trans_alloc (by assumption) | (refine Keeps.alloc ?_ _) | (refine Keeps.drew ?_) | (refine Keeps.drewN ?_ _) | (refine Keeps.setCell ?_ _ _ (fun h => by simp at h; try omega)) | (refine Keeps.setCell ?_ _ _ (fun h => absurd h (by simp; try omega)))))⟩)
  all_goals (rw [Bool.eq_iff_iff]; simp only [Bool.and_eq_true, Bool.or_eq_true, decide_eq_true_eq, Bool.false_eq_true, false_iff, true_iff, iff_true, iff_false] at *; (try simp only [GTask.ok]); omega)
theorem removeRight_c (id : Int) (w : World) : Calls Tryz.prog 120 #[.agg #[.int .i64 id]] w fun e w' => e = .returned (.bool (decide (0 ≤ id ∧ id ≤ 1023))) ∧ Adds w w' := by
  have K := Keeps.refl (fun _ => False) w
  go_enter Tryz.func120, Tryz.ntmps120
  go_wp2
  all_goals (go_ret; refine ⟨ret_bool ?_, by (repeat (first | assumption | exact Keeps.refl _ _ | exact Keeps.trans_alloc (by assumption) | (refine Keeps.alloc ?_ _) | (refine Keeps.drew ?_) | (refine Keeps.drewN ?_ _) | (refine Keeps.setCell ?_ _ _ (fun h => by simp at h; try omega)) | (refine Keeps.setCell ?_ _ _ (fun h => absurd h (by simp; try omega)))))⟩)
  all_goals (rw [Bool.eq_iff_iff]; simp only [Bool.and_eq_true, Bool.or_eq_true, decide_eq_true_eq, Bool.false_eq_true, false_iff, true_iff, iff_true, iff_false] at *; (try simp only [GTask.ok]); omega)
theorem resizeRight_c (id c : Int) (w : World) : Calls Tryz.prog 123 #[.agg #[.int .i64 id, .int .i64 c]] w fun e w' => e = .returned (.bool (decide (0 ≤ id ∧ id ≤ 1023 ∧ 1 ≤ c ∧ c ≤ 2147483648))) ∧ Adds w w' := by
  have K := Keeps.refl (fun _ => False) w
  go_enter Tryz.func123, Tryz.ntmps123
  go_wp2
  all_goals (go_ret; refine ⟨ret_bool ?_, by (repeat (first | assumption | exact Keeps.refl _ _ | exact Keeps.trans_alloc (by assumption) | (refine Keeps.alloc ?_ _) | (refine Keeps.drew ?_) | (refine Keeps.drewN ?_ _) | (refine Keeps.setCell ?_ _ _ (fun h => by simp at h; try omega)) | (refine Keeps.setCell ?_ _ _ (fun h => absurd h (by simp; try omega)))))⟩)
  all_goals (rw [Bool.eq_iff_iff]; simp only [Bool.and_eq_true, Bool.or_eq_true, decide_eq_true_eq, Bool.false_eq_true, false_iff, true_iff, iff_true, iff_false] at *; (try simp only [GTask.ok]); omega)
theorem modeRight_c (m : Int) (w : World) : Calls Tryz.prog 126 #[.agg #[.int .i64 m]] w fun e w' => e = .returned (.bool (decide (0 ≤ m ∧ m < 4))) ∧ Adds w w' := by
  have K := Keeps.refl (fun _ => False) w
  go_enter Tryz.func126, Tryz.ntmps126
  go_wp2
  all_goals (go_ret; refine ⟨ret_bool ?_, by (repeat (first | assumption | exact Keeps.refl _ _ | exact Keeps.trans_alloc (by assumption) | (refine Keeps.alloc ?_ _) | (refine Keeps.drew ?_) | (refine Keeps.drewN ?_ _) | (refine Keeps.setCell ?_ _ _ (fun h => by simp at h; try omega)) | (refine Keeps.setCell ?_ _ _ (fun h => absurd h (by simp; try omega)))))⟩)
  all_goals (rw [Bool.eq_iff_iff]; simp only [Bool.and_eq_true, Bool.or_eq_true, decide_eq_true_eq, Bool.false_eq_true, false_iff, true_iff, iff_true, iff_false] at *; (try simp only [GTask.ok]); omega)
theorem otherRight_c (k : Int) (w : World) : Calls Tryz.prog 129 #[.agg #[.int .i64 k]] w fun e w' => e = .returned (.bool false) ∧ Adds w w' := by
  have K := Keeps.refl (fun _ => False) w
  go_enter Tryz.func129, Tryz.ntmps129
  go_wp2
  go_ret
  exact ⟨rfl, by (repeat (first | assumption | exact Keeps.refl _ _ | exact Keeps.trans_alloc (by assumption) | (refine Keeps.alloc ?_ _) | (refine Keeps.drew ?_) | (refine Keeps.drewN ?_ _) | (refine Keeps.setCell ?_ _ _ (fun h => by simp at h; try omega)) | (refine Keeps.setCell ?_ _ _ (fun h => absurd h (by simp; try omega)))))⟩
theorem admitRight_c (a b c d e : Int) (sv : Bool) (w : World) : Calls Tryz.prog 117 #[.agg #[.int .i64 a, .int .i64 b, .int .i64 c, .int .i64 d, .int .i64 e, .bool sv]] w fun r w' => r = .returned (.bool (decide (GTask.ok ⟨a, b, c, d, e⟩ ∧ (sv = true → c = d)))) ∧ Adds w w' := by
  have K := Keeps.refl (fun _ => False) w
  by_cases hq : GTask.ok ⟨a, b, c, d, e⟩
  · have e1 : decide (GTask.ok ⟨a, b, c, d, e⟩) = true := decide_eq_true hq
    go_enter Tryz.func117, Tryz.ntmps117
    go_wp2_with (go_at_call 30; refine (pCheck_c ⟨a, b, c, d, e⟩ _).mono ?_; rw [e1]; rintro r w1 ⟨rfl, k1⟩; have c5 := k1.box (j := 5) rfl id; have c2 := k1.box (j := 2) rfl id; have c3 := k1.box (j := 3) rfl id)
    all_goals (go_ret; refine ⟨ret_bool ?_, by (repeat (first | assumption | exact Keeps.refl _ _ | exact Keeps.trans_alloc (by assumption) | (refine Keeps.alloc ?_ _) | (refine Keeps.drew ?_) | (refine Keeps.drewN ?_ _) | (refine Keeps.setCell ?_ _ _ (fun h => by simp at h; try omega)) | (refine Keeps.setCell ?_ _ _ (fun h => absurd h (by simp; try omega)))))⟩)
    all_goals (rw [Bool.eq_iff_iff]; simp [*])
  · have e1 : decide (GTask.ok ⟨a, b, c, d, e⟩) = false := decide_eq_false hq
    go_enter Tryz.func117, Tryz.ntmps117
    go_wp2_with (go_at_call 30; refine (pCheck_c ⟨a, b, c, d, e⟩ _).mono ?_; rw [e1]; rintro r w1 ⟨rfl, k1⟩)
    all_goals (go_ret; refine ⟨ret_bool ?_, by (repeat (first | assumption | exact Keeps.refl _ _ | exact Keeps.trans_alloc (by assumption) | (refine Keeps.alloc ?_ _) | (refine Keeps.drew ?_) | (refine Keeps.drewN ?_ _) | (refine Keeps.setCell ?_ _ _ (fun h => by simp at h; try omega)) | (refine Keeps.setCell ?_ _ _ (fun h => absurd h (by simp; try omega)))))⟩)
    all_goals (rw [Bool.eq_iff_iff]; simp [*])
end Go.Proofs.YtoeinhlmkpgjhaaGreatDoor
namespace Go.Proofs.YtoeinhlmkpgjhaaGreatDoor
open Go.RowKit
set_option linter.unusedVariables false
abbrev GOp.cells (o : GOp) : Array Value := #[.int .i64 o.kind, .int .i64 o.task.id, .int .i64 o.task.c, .int .i64 o.task.d, .int .i64 o.task.t, .int .i64 o.task.m, .bool o.sv, .int .i64 o.id, .int .i64 o.c, .int .i64 o.m]
theorem opBlock {w : World} {b : Nat} {T : TypeId} {fr : Nat × Nat} (k a b' c d e : Int) (sv : Bool) (i cc m : Int) (hb : w.heap[b]? = some (.cells #[.int .i64 k, .int .i64 a, .int .i64 b', .int .i64 c, .int .i64 d, .int .i64 e, .bool sv, .int .i64 i, .int .i64 cc, .int .i64 m] T fr)) :
    w.cell? ⟨b, 0, none⟩ = some (.int .i64 k) ∧ w.cell? ⟨b, 1, none⟩ = some (.int .i64 a) ∧ w.cell? ⟨b, 2, none⟩ = some (.int .i64 b') ∧ w.cell? ⟨b, 3, none⟩ = some (.int .i64 c) ∧ w.cell? ⟨b, 4, none⟩ = some (.int .i64 d) ∧ w.cell? ⟨b, 5, none⟩ = some (.int .i64 e) ∧ w.cell? ⟨b, 6, none⟩ = some (.bool sv) ∧ w.cell? ⟨b, 7, none⟩ = some (.int .i64 i) ∧ w.cell? ⟨b, 8, none⟩ = some (.int .i64 cc) ∧ w.cell? ⟨b, 9, none⟩ = some (.int .i64 m) :=
  ⟨cell_at hb 0 rfl, cell_at hb 1 rfl, cell_at hb 2 rfl, cell_at hb 3 rfl, cell_at hb 4 rfl, cell_at hb 5 rfl, cell_at hb 6 rfl, cell_at hb 7 rfl, cell_at hb 8 rfl, cell_at hb 9 rfl⟩
theorem pBare_1  (a b c d e : Int) (sv : Bool) (i cc m : Int) (w : World) : Calls Tryz.prog 71 #[GOp.val ⟨1, ⟨a, b, c, d, e⟩, sv, i, cc, m⟩] w fun r w' => r = .returned (GOp.val ⟨1, ⟨a, b, c, d, e⟩, sv, 0, 0, 0⟩) ∧ Adds w w' := by
  have K := Keeps.refl (fun _ => False) w
  have hv : ofV ⟨1, ⟨a, b, c, d, e⟩, sv, i, cc, m⟩ = .iface 122 (.agg #[.int .i64 a, .int .i64 b, .int .i64 c, .int .i64 d, .int .i64 e, .bool sv]) := rfl
  skip
  go_enter Tryz.func71, Tryz.ntmps71
  go_wp2_with (first | (go_at_call 72; refine (pOf_c ⟨1, ⟨a, b, c, d, e⟩, sv, i, cc, m⟩ _).mono ?_; rw [hv]; clear hv; rintro r w1 ⟨rfl, k1⟩) | (go_at_call 115; refine (admitOp_c a b c d e sv _).mono ?_; rintro r w2 ⟨rfl, k2⟩; have hb := k2.heap (k1.heap (k := w.heap.size + 1) (by simpa using heap_alloc_new' (w.alloc _) _) id) id; obtain ⟨c0, c1, c2, c3, c4, c5, c6, c7, c8, c9⟩ := opBlock 0 0 0 0 0 0 false 0 0 0 hb; have fz : ∀ j, w2.frozen? ⟨w.heap.size + 1, j, none⟩ = false := fun j => free_at hb j; clear hb))
  try simp only [Exit.inBlock, Exit.then]
  refine bodyPost_ret (v := GOp.val ⟨1, ⟨a, b, c, d, e⟩, sv, 0, 0, 0⟩) (by simp [results, Tryz.results71, go_sem, c0, c1, c2, c3, c4, c5, c6, c7, c8, c9, GOp.val]) rfl ?_
  have K2 : Adds w w2 := (((K.alloc _).alloc _).trans k1).trans k2
  refine ⟨rfl, ?_⟩
  iterate 10 refine Keeps.setCell ?_ _ _ (fun h => absurd h (Nat.not_lt.2 (Nat.le_succ _)))
  exact K2
theorem pBare_2  (a b c d e : Int) (sv : Bool) (i cc m : Int) (w : World) : Calls Tryz.prog 71 #[GOp.val ⟨2, ⟨a, b, c, d, e⟩, sv, i, cc, m⟩] w fun r w' => r = .returned (GOp.val ⟨2, ⟨0, 0, 0, 0, 0⟩, false, i, 0, 0⟩) ∧ Adds w w' := by
  have K := Keeps.refl (fun _ => False) w
  have hv : ofV ⟨2, ⟨a, b, c, d, e⟩, sv, i, cc, m⟩ = .iface 124 (.agg #[.int .i64 i]) := rfl
  skip
  go_enter Tryz.func71, Tryz.ntmps71
  go_wp2_with (first | (go_at_call 72; refine (pOf_c ⟨2, ⟨a, b, c, d, e⟩, sv, i, cc, m⟩ _).mono ?_; rw [hv]; clear hv; rintro r w1 ⟨rfl, k1⟩) | (go_at_call 118; refine (removeOp_c i _).mono ?_; rintro r w2 ⟨rfl, k2⟩; have hb := k2.heap (k1.heap (k := w.heap.size + 1) (by simpa using heap_alloc_new' (w.alloc _) _) id) id; obtain ⟨c0, c1, c2, c3, c4, c5, c6, c7, c8, c9⟩ := opBlock 0 0 0 0 0 0 false 0 0 0 hb; have fz : ∀ j, w2.frozen? ⟨w.heap.size + 1, j, none⟩ = false := fun j => free_at hb j; clear hb))
  try simp only [Exit.inBlock, Exit.then]
  refine bodyPost_ret (v := GOp.val ⟨2, ⟨0, 0, 0, 0, 0⟩, false, i, 0, 0⟩) (by simp [results, Tryz.results71, go_sem, c0, c1, c2, c3, c4, c5, c6, c7, c8, c9, GOp.val]) rfl ?_
  have K2 : Adds w w2 := (((K.alloc _).alloc _).trans k1).trans k2
  refine ⟨rfl, ?_⟩
  iterate 10 refine Keeps.setCell ?_ _ _ (fun h => absurd h (Nat.not_lt.2 (Nat.le_succ _)))
  exact K2
theorem pBare_3  (a b c d e : Int) (sv : Bool) (i cc m : Int) (w : World) : Calls Tryz.prog 71 #[GOp.val ⟨3, ⟨a, b, c, d, e⟩, sv, i, cc, m⟩] w fun r w' => r = .returned (GOp.val ⟨3, ⟨0, 0, 0, 0, 0⟩, false, i, cc, 0⟩) ∧ Adds w w' := by
  have K := Keeps.refl (fun _ => False) w
  have hv : ofV ⟨3, ⟨a, b, c, d, e⟩, sv, i, cc, m⟩ = .iface 126 (.agg #[.int .i64 i, .int .i64 cc]) := rfl
  skip
  go_enter Tryz.func71, Tryz.ntmps71
  go_wp2_with (first | (go_at_call 72; refine (pOf_c ⟨3, ⟨a, b, c, d, e⟩, sv, i, cc, m⟩ _).mono ?_; rw [hv]; clear hv; rintro r w1 ⟨rfl, k1⟩) | (go_at_call 121; refine (resizeOp_c i cc _).mono ?_; rintro r w2 ⟨rfl, k2⟩; have hb := k2.heap (k1.heap (k := w.heap.size + 1) (by simpa using heap_alloc_new' (w.alloc _) _) id) id; obtain ⟨c0, c1, c2, c3, c4, c5, c6, c7, c8, c9⟩ := opBlock 0 0 0 0 0 0 false 0 0 0 hb; have fz : ∀ j, w2.frozen? ⟨w.heap.size + 1, j, none⟩ = false := fun j => free_at hb j; clear hb))
  try simp only [Exit.inBlock, Exit.then]
  refine bodyPost_ret (v := GOp.val ⟨3, ⟨0, 0, 0, 0, 0⟩, false, i, cc, 0⟩) (by simp [results, Tryz.results71, go_sem, c0, c1, c2, c3, c4, c5, c6, c7, c8, c9, GOp.val]) rfl ?_
  have K2 : Adds w w2 := (((K.alloc _).alloc _).trans k1).trans k2
  refine ⟨rfl, ?_⟩
  iterate 10 refine Keeps.setCell ?_ _ _ (fun h => absurd h (Nat.not_lt.2 (Nat.le_succ _)))
  exact K2
theorem pBare_4  (a b c d e : Int) (sv : Bool) (i cc m : Int) (w : World) : Calls Tryz.prog 71 #[GOp.val ⟨4, ⟨a, b, c, d, e⟩, sv, i, cc, m⟩] w fun r w' => r = .returned (GOp.val ⟨4, ⟨0, 0, 0, 0, 0⟩, false, 0, 0, m⟩) ∧ Adds w w' := by
  have K := Keeps.refl (fun _ => False) w
  have hv : ofV ⟨4, ⟨a, b, c, d, e⟩, sv, i, cc, m⟩ = .iface 128 (.agg #[.int .i64 m]) := rfl
  skip
  go_enter Tryz.func71, Tryz.ntmps71
  go_wp2_with (first | (go_at_call 72; refine (pOf_c ⟨4, ⟨a, b, c, d, e⟩, sv, i, cc, m⟩ _).mono ?_; rw [hv]; clear hv; rintro r w1 ⟨rfl, k1⟩) | (go_at_call 124; refine (modeOp_c m _).mono ?_; rintro r w2 ⟨rfl, k2⟩; have hb := k2.heap (k1.heap (k := w.heap.size + 1) (by simpa using heap_alloc_new' (w.alloc _) _) id) id; obtain ⟨c0, c1, c2, c3, c4, c5, c6, c7, c8, c9⟩ := opBlock 0 0 0 0 0 0 false 0 0 0 hb; have fz : ∀ j, w2.frozen? ⟨w.heap.size + 1, j, none⟩ = false := fun j => free_at hb j; clear hb))
  try simp only [Exit.inBlock, Exit.then]
  refine bodyPost_ret (v := GOp.val ⟨4, ⟨0, 0, 0, 0, 0⟩, false, 0, 0, m⟩) (by simp [results, Tryz.results71, go_sem, c0, c1, c2, c3, c4, c5, c6, c7, c8, c9, GOp.val]) rfl ?_
  have K2 : Adds w w2 := (((K.alloc _).alloc _).trans k1).trans k2
  refine ⟨rfl, ?_⟩
  iterate 10 refine Keeps.setCell ?_ _ _ (fun h => absurd h (Nat.not_lt.2 (Nat.le_succ _)))
  exact K2
theorem pBare_k (k : Int) (h1 : k ≠ 1) (h2 : k ≠ 2) (h3 : k ≠ 3) (h4 : k ≠ 4) (a b c d e : Int) (sv : Bool) (i cc m : Int) (w : World) : Calls Tryz.prog 71 #[GOp.val ⟨k, ⟨a, b, c, d, e⟩, sv, i, cc, m⟩] w fun r w' => r = .returned (GOp.val ⟨k, ⟨0, 0, 0, 0, 0⟩, false, 0, 0, 0⟩) ∧ Adds w w' := by
  have K := Keeps.refl (fun _ => False) w
  have hv : ofV ⟨k, ⟨a, b, c, d, e⟩, sv, i, cc, m⟩ = .iface 130 (.agg #[.int .i64 k]) := by simp only [ofV, if_neg h1, if_neg h2, if_neg h3, if_neg h4]
  clear h1 h2 h3 h4
  go_enter Tryz.func71, Tryz.ntmps71
  go_wp2_with (first | (go_at_call 72; refine (pOf_c ⟨k, ⟨a, b, c, d, e⟩, sv, i, cc, m⟩ _).mono ?_; rw [hv]; clear hv; rintro r w1 ⟨rfl, k1⟩) | (go_at_call 127; refine (otherOp_c k _).mono ?_; rintro r w2 ⟨rfl, k2⟩; have hb := k2.heap (k1.heap (k := w.heap.size + 1) (by simpa using heap_alloc_new' (w.alloc _) _) id) id; obtain ⟨c0, c1, c2, c3, c4, c5, c6, c7, c8, c9⟩ := opBlock 0 0 0 0 0 0 false 0 0 0 hb; have fz : ∀ j, w2.frozen? ⟨w.heap.size + 1, j, none⟩ = false := fun j => free_at hb j; clear hb))
  try simp only [Exit.inBlock, Exit.then]
  refine bodyPost_ret (v := GOp.val ⟨k, ⟨0, 0, 0, 0, 0⟩, false, 0, 0, 0⟩) (by simp [results, Tryz.results71, go_sem, c0, c1, c2, c3, c4, c5, c6, c7, c8, c9, GOp.val]) rfl ?_
  have K2 : Adds w w2 := (((K.alloc _).alloc _).trans k1).trans k2
  refine ⟨rfl, ?_⟩
  iterate 10 refine Keeps.setCell ?_ _ _ (fun h => absurd h (Nat.not_lt.2 (Nat.le_succ _)))
  exact K2
end Go.Proofs.YtoeinhlmkpgjhaaGreatDoor
namespace Go.Proofs.YtoeinhlmkpgjhaaGreatDoor
open Go.RowKit
set_option linter.unusedVariables false
set_option linter.unusedSimpArgs false
def GOp.right (o : GOp) : Prop :=
  if o.kind = 1 then o.task.ok ∧ (o.sv = true → o.task.d = o.task.t)
  else if o.kind = 2 then 0 ≤ o.id ∧ o.id ≤ 1023
  else if o.kind = 3 then 0 ≤ o.id ∧ o.id ≤ 1023 ∧ 1 ≤ o.c ∧ o.c ≤ 2147483648
  else if o.kind = 4 then 0 ≤ o.m ∧ o.m < 4
  else False
instance (o : GOp) : Decidable o.right := by unfold GOp.right; infer_instance
def GOp.ok (o : GOp) : Prop := o = o.bare ∧ o.right
instance (o : GOp) : Decidable o.ok := by unfold GOp.ok; infer_instance
def GOp.same (o p : GOp) : Bool := decide (o = p)
theorem eqOp (k k' a a' b b' c c' d d' e e' i i' cc cc' m m' : Int) (sv sv' : Bool) (w : World) :
    (binOp .eql 36 (.agg #[.int .i64 k, .int .i64 a, .int .i64 b, .int .i64 c, .int .i64 d, .int .i64 e, .bool sv, .int .i64 i, .int .i64 cc, .int .i64 m]) (.agg #[.int .i64 k', .int .i64 a', .int .i64 b', .int .i64 c', .int .i64 d', .int .i64 e', .bool sv', .int .i64 i', .int .i64 cc', .int .i64 m'])).run Tryz.prog w = .ok (.bool (GOp.same ⟨k, ⟨a, b, c, d, e⟩, sv, i, cc, m⟩ ⟨k', ⟨a', b', c', d', e'⟩, sv', i', cc', m'⟩)) w := by
  have hs : GOp.same ⟨k, ⟨a, b, c, d, e⟩, sv, i, cc, m⟩ ⟨k', ⟨a', b', c', d', e'⟩, sv', i', cc', m'⟩ = decide (k = k' ∧ (a = a' ∧ b = b' ∧ c = c' ∧ d = d' ∧ e = e') ∧ sv = sv' ∧ i = i' ∧ cc = cc' ∧ m = m') := by
    simp only [GOp.same, GOp.mk.injEq, GTask.mk.injEq]
  rw [hs]
  clear hs
  simp [go_sem]
  repeat' split
  all_goals simp_all
theorem Keeps.op {S : Nat → Prop} {w w1 : World} {B : Nat} {k a b c d e : Int} {sv : Bool} {i cc m : Int} (kk : Keeps S w w1)
    (h : w.cell? ⟨B, 0, none⟩ = some (.int .i64 k) ∧ w.cell? ⟨B, 1, none⟩ = some (.int .i64 a) ∧ w.cell? ⟨B, 2, none⟩ = some (.int .i64 b) ∧ w.cell? ⟨B, 3, none⟩ = some (.int .i64 c) ∧ w.cell? ⟨B, 4, none⟩ = some (.int .i64 d) ∧ w.cell? ⟨B, 5, none⟩ = some (.int .i64 e) ∧ w.cell? ⟨B, 6, none⟩ = some (.bool sv) ∧ w.cell? ⟨B, 7, none⟩ = some (.int .i64 i) ∧ w.cell? ⟨B, 8, none⟩ = some (.int .i64 cc) ∧ w.cell? ⟨B, 9, none⟩ = some (.int .i64 m)) (hn : ¬ S B) :
    w1.cell? ⟨B, 0, none⟩ = some (.int .i64 k) ∧ w1.cell? ⟨B, 1, none⟩ = some (.int .i64 a) ∧ w1.cell? ⟨B, 2, none⟩ = some (.int .i64 b) ∧ w1.cell? ⟨B, 3, none⟩ = some (.int .i64 c) ∧ w1.cell? ⟨B, 4, none⟩ = some (.int .i64 d) ∧ w1.cell? ⟨B, 5, none⟩ = some (.int .i64 e) ∧ w1.cell? ⟨B, 6, none⟩ = some (.bool sv) ∧ w1.cell? ⟨B, 7, none⟩ = some (.int .i64 i) ∧ w1.cell? ⟨B, 8, none⟩ = some (.int .i64 cc) ∧ w1.cell? ⟨B, 9, none⟩ = some (.int .i64 m) :=
  ⟨kk.cell h.1 hn, kk.cell h.2.1 hn, kk.cell h.2.2.1 hn, kk.cell h.2.2.2.1 hn, kk.cell h.2.2.2.2.1 hn, kk.cell h.2.2.2.2.2.1 hn, kk.cell h.2.2.2.2.2.2.1 hn, kk.cell h.2.2.2.2.2.2.2.1 hn, kk.cell h.2.2.2.2.2.2.2.2.1 hn, kk.cell h.2.2.2.2.2.2.2.2.2 hn⟩
theorem pOCheck_1 (a b c d e : Int) (sv : Bool) (i cc m : Int) (w : World) : Calls Tryz.prog 58 #[GOp.val ⟨1, ⟨a, b, c, d, e⟩, sv, i, cc, m⟩] w fun r w' => r = .returned (.bool (decide (GOp.ok ⟨1, ⟨a, b, c, d, e⟩, sv, i, cc, m⟩))) ∧ Adds w w' := by
  have K := Keeps.refl (fun _ => False) w
  have hv : ofV ⟨1, ⟨a, b, c, d, e⟩, sv, i, cc, m⟩ = .iface 122 (.agg #[.int .i64 a, .int .i64 b, .int .i64 c, .int .i64 d, .int .i64 e, .bool sv]) := rfl
  have hb : GOp.bare ⟨1, ⟨a, b, c, d, e⟩, sv, i, cc, m⟩ = ⟨1, ⟨a, b, c, d, e⟩, sv, 0, 0, 0⟩ := rfl
  have ht : GOp.right ⟨1, ⟨a, b, c, d, e⟩, sv, i, cc, m⟩ = (GTask.ok ⟨a, b, c, d, e⟩ ∧ (sv = true → c = d)) := rfl
  have qE := eqOp 1 1 a a b b c c d d e e i 0 cc 0 m 0 sv sv
  by_cases hq : (⟨1, ⟨a, b, c, d, e⟩, sv, i, cc, m⟩ : GOp) = ⟨1, ⟨a, b, c, d, e⟩, sv, 0, 0, 0⟩
  · have e1 : GOp.same ⟨1, ⟨a, b, c, d, e⟩, sv, i, cc, m⟩ ⟨1, ⟨a, b, c, d, e⟩, sv, 0, 0, 0⟩ = true := decide_eq_true hq
    have hr : decide (GOp.ok ⟨1, ⟨a, b, c, d, e⟩, sv, i, cc, m⟩) = decide (GTask.ok ⟨a, b, c, d, e⟩ ∧ (sv = true → c = d)) :=
      decide_eq_decide.2 ⟨fun h => ht ▸ h.2, fun h => ⟨hq.trans hb.symm, ht ▸ h⟩⟩
    rw [hr]
    skip
    rw [e1] at qE
    generalize hy : decide (GTask.ok ⟨a, b, c, d, e⟩ ∧ (sv = true → c = d)) = y
    clear hr e1 hq hb ht
    have hbare := Lib.hid (fun w => pBare_1 a b c d e sv i cc m w)
    have hof := Lib.hid (fun w => pOf_c ⟨1, ⟨a, b, c, d, e⟩, sv, i, cc, m⟩ w)
    skip
    go_enter Tryz.func58, Tryz.ntmps58
    go_wp2
    have c0 := opBlock (w := w.alloc (.cells #[.int .i64 1, .int .i64 a, .int .i64 b, .int .i64 c, .int .i64 d, .int .i64 e, .bool sv, .int .i64 i, .int .i64 cc, .int .i64 m] 36)) (b := w.heap.size) 1 a b c d e sv i cc m (heap_alloc_new' w _)
    first | (go_region_held3 (fun w' => w'.cell? ⟨w.heap.size, 0, none⟩ = some (.int .i64 1) ∧ w'.cell? ⟨w.heap.size, 1, none⟩ = some (.int .i64 a) ∧ w'.cell? ⟨w.heap.size, 2, none⟩ = some (.int .i64 b) ∧ w'.cell? ⟨w.heap.size, 3, none⟩ = some (.int .i64 c) ∧ w'.cell? ⟨w.heap.size, 4, none⟩ = some (.int .i64 d) ∧ w'.cell? ⟨w.heap.size, 5, none⟩ = some (.int .i64 e) ∧ w'.cell? ⟨w.heap.size, 6, none⟩ = some (.bool sv) ∧ w'.cell? ⟨w.heap.size, 7, none⟩ = some (.int .i64 i) ∧ w'.cell? ⟨w.heap.size, 8, none⟩ = some (.int .i64 cc) ∧ w'.cell? ⟨w.heap.size, 9, none⟩ = some (.int .i64 m)) ((first | (go_keep; done) | exact Keeps.op (by assumption) (by assumption) id)) (first | (go_at_call 71; refine (hbare.out _).mono ?_; rintro r w1 ⟨rfl, k1⟩) | (go_at_call 72; refine (hof.out _).mono ?_; rw [hv]; rintro r w2 ⟨rfl, k2⟩) | (go_at_call 117; refine (admitRight_c a b c d e sv _).mono ?_; rw [hy]; rintro r w3 ⟨rfl, k3⟩))) | fail
    clear c0
    go_wp2
    go_ret
    exact ⟨rfl, ((((K.alloc _).drew).trans k1).trans k2).trans k3⟩
  · have e1 : GOp.same ⟨1, ⟨a, b, c, d, e⟩, sv, i, cc, m⟩ ⟨1, ⟨a, b, c, d, e⟩, sv, 0, 0, 0⟩ = false := decide_eq_false hq
    have hr : decide (GOp.ok ⟨1, ⟨a, b, c, d, e⟩, sv, i, cc, m⟩) = false :=
      decide_eq_false (fun h => hq (h.1.trans hb))
    rw [hr]
    skip
    rw [e1] at qE
    clear hr e1 hq hb ht hv
    have hbare := Lib.hid (fun w => pBare_1 a b c d e sv i cc m w)
    skip
    go_enter Tryz.func58, Tryz.ntmps58
    go_wp2
    have c0 := opBlock (w := w.alloc (.cells #[.int .i64 1, .int .i64 a, .int .i64 b, .int .i64 c, .int .i64 d, .int .i64 e, .bool sv, .int .i64 i, .int .i64 cc, .int .i64 m] 36)) (b := w.heap.size) 1 a b c d e sv i cc m (heap_alloc_new' w _)
    go_region_with (first | (go_at_call 71; refine (hbare.out _).mono ?_; rintro r w1 ⟨rfl, k1⟩; obtain ⟨f0, f1, f2, f3, f4, f5, f6, f7, f8, f9⟩ := Keeps.op k1 c0 id))
    all_goals clear c0
    all_goals (go_wp2; go_ret; exact ⟨rfl, ((K.alloc _).drew).trans k1⟩)
theorem pOCheck_2 (a b c d e : Int) (sv : Bool) (i cc m : Int) (w : World) : Calls Tryz.prog 58 #[GOp.val ⟨2, ⟨a, b, c, d, e⟩, sv, i, cc, m⟩] w fun r w' => r = .returned (.bool (decide (GOp.ok ⟨2, ⟨a, b, c, d, e⟩, sv, i, cc, m⟩))) ∧ Adds w w' := by
  have K := Keeps.refl (fun _ => False) w
  have hv : ofV ⟨2, ⟨a, b, c, d, e⟩, sv, i, cc, m⟩ = .iface 124 (.agg #[.int .i64 i]) := rfl
  have hb : GOp.bare ⟨2, ⟨a, b, c, d, e⟩, sv, i, cc, m⟩ = ⟨2, ⟨0, 0, 0, 0, 0⟩, false, i, 0, 0⟩ := rfl
  have ht : GOp.right ⟨2, ⟨a, b, c, d, e⟩, sv, i, cc, m⟩ = (0 ≤ i ∧ i ≤ 1023) := rfl
  have qE := eqOp 2 2 a 0 b 0 c 0 d 0 e 0 i i cc 0 m 0 sv false
  by_cases hq : (⟨2, ⟨a, b, c, d, e⟩, sv, i, cc, m⟩ : GOp) = ⟨2, ⟨0, 0, 0, 0, 0⟩, false, i, 0, 0⟩
  · have e1 : GOp.same ⟨2, ⟨a, b, c, d, e⟩, sv, i, cc, m⟩ ⟨2, ⟨0, 0, 0, 0, 0⟩, false, i, 0, 0⟩ = true := decide_eq_true hq
    have hr : decide (GOp.ok ⟨2, ⟨a, b, c, d, e⟩, sv, i, cc, m⟩) = decide (0 ≤ i ∧ i ≤ 1023) :=
      decide_eq_decide.2 ⟨fun h => ht ▸ h.2, fun h => ⟨hq.trans hb.symm, ht ▸ h⟩⟩
    rw [hr]
    skip
    rw [e1] at qE
    generalize hy : decide (0 ≤ i ∧ i ≤ 1023) = y
    clear hr e1 hq hb ht
    have hbare := Lib.hid (fun w => pBare_2 a b c d e sv i cc m w)
    have hof := Lib.hid (fun w => pOf_c ⟨2, ⟨a, b, c, d, e⟩, sv, i, cc, m⟩ w)
    skip
    go_enter Tryz.func58, Tryz.ntmps58
    go_wp2
    have c0 := opBlock (w := w.alloc (.cells #[.int .i64 2, .int .i64 a, .int .i64 b, .int .i64 c, .int .i64 d, .int .i64 e, .bool sv, .int .i64 i, .int .i64 cc, .int .i64 m] 36)) (b := w.heap.size) 2 a b c d e sv i cc m (heap_alloc_new' w _)
    first | (go_region_held3 (fun w' => w'.cell? ⟨w.heap.size, 0, none⟩ = some (.int .i64 2) ∧ w'.cell? ⟨w.heap.size, 1, none⟩ = some (.int .i64 a) ∧ w'.cell? ⟨w.heap.size, 2, none⟩ = some (.int .i64 b) ∧ w'.cell? ⟨w.heap.size, 3, none⟩ = some (.int .i64 c) ∧ w'.cell? ⟨w.heap.size, 4, none⟩ = some (.int .i64 d) ∧ w'.cell? ⟨w.heap.size, 5, none⟩ = some (.int .i64 e) ∧ w'.cell? ⟨w.heap.size, 6, none⟩ = some (.bool sv) ∧ w'.cell? ⟨w.heap.size, 7, none⟩ = some (.int .i64 i) ∧ w'.cell? ⟨w.heap.size, 8, none⟩ = some (.int .i64 cc) ∧ w'.cell? ⟨w.heap.size, 9, none⟩ = some (.int .i64 m)) ((first | (go_keep; done) | exact Keeps.op (by assumption) (by assumption) id)) (first | (go_at_call 71; refine (hbare.out _).mono ?_; rintro r w1 ⟨rfl, k1⟩) | (go_at_call 72; refine (hof.out _).mono ?_; rw [hv]; rintro r w2 ⟨rfl, k2⟩) | (go_at_call 120; refine (removeRight_c i _).mono ?_; rw [hy]; rintro r w3 ⟨rfl, k3⟩))) | fail
    clear c0
    go_wp2
    go_ret
    exact ⟨rfl, ((((K.alloc _).drew).trans k1).trans k2).trans k3⟩
  · have e1 : GOp.same ⟨2, ⟨a, b, c, d, e⟩, sv, i, cc, m⟩ ⟨2, ⟨0, 0, 0, 0, 0⟩, false, i, 0, 0⟩ = false := decide_eq_false hq
    have hr : decide (GOp.ok ⟨2, ⟨a, b, c, d, e⟩, sv, i, cc, m⟩) = false :=
      decide_eq_false (fun h => hq (h.1.trans hb))
    rw [hr]
    skip
    rw [e1] at qE
    clear hr e1 hq hb ht hv
    have hbare := Lib.hid (fun w => pBare_2 a b c d e sv i cc m w)
    skip
    go_enter Tryz.func58, Tryz.ntmps58
    go_wp2
    have c0 := opBlock (w := w.alloc (.cells #[.int .i64 2, .int .i64 a, .int .i64 b, .int .i64 c, .int .i64 d, .int .i64 e, .bool sv, .int .i64 i, .int .i64 cc, .int .i64 m] 36)) (b := w.heap.size) 2 a b c d e sv i cc m (heap_alloc_new' w _)
    go_region_with (first | (go_at_call 71; refine (hbare.out _).mono ?_; rintro r w1 ⟨rfl, k1⟩; obtain ⟨f0, f1, f2, f3, f4, f5, f6, f7, f8, f9⟩ := Keeps.op k1 c0 id))
    all_goals clear c0
    all_goals (go_wp2; go_ret; exact ⟨rfl, ((K.alloc _).drew).trans k1⟩)
theorem pOCheck_3 (a b c d e : Int) (sv : Bool) (i cc m : Int) (w : World) : Calls Tryz.prog 58 #[GOp.val ⟨3, ⟨a, b, c, d, e⟩, sv, i, cc, m⟩] w fun r w' => r = .returned (.bool (decide (GOp.ok ⟨3, ⟨a, b, c, d, e⟩, sv, i, cc, m⟩))) ∧ Adds w w' := by
  have K := Keeps.refl (fun _ => False) w
  have hv : ofV ⟨3, ⟨a, b, c, d, e⟩, sv, i, cc, m⟩ = .iface 126 (.agg #[.int .i64 i, .int .i64 cc]) := rfl
  have hb : GOp.bare ⟨3, ⟨a, b, c, d, e⟩, sv, i, cc, m⟩ = ⟨3, ⟨0, 0, 0, 0, 0⟩, false, i, cc, 0⟩ := rfl
  have ht : GOp.right ⟨3, ⟨a, b, c, d, e⟩, sv, i, cc, m⟩ = (0 ≤ i ∧ i ≤ 1023 ∧ 1 ≤ cc ∧ cc ≤ 2147483648) := rfl
  have qE := eqOp 3 3 a 0 b 0 c 0 d 0 e 0 i i cc cc m 0 sv false
  by_cases hq : (⟨3, ⟨a, b, c, d, e⟩, sv, i, cc, m⟩ : GOp) = ⟨3, ⟨0, 0, 0, 0, 0⟩, false, i, cc, 0⟩
  · have e1 : GOp.same ⟨3, ⟨a, b, c, d, e⟩, sv, i, cc, m⟩ ⟨3, ⟨0, 0, 0, 0, 0⟩, false, i, cc, 0⟩ = true := decide_eq_true hq
    have hr : decide (GOp.ok ⟨3, ⟨a, b, c, d, e⟩, sv, i, cc, m⟩) = decide (0 ≤ i ∧ i ≤ 1023 ∧ 1 ≤ cc ∧ cc ≤ 2147483648) :=
      decide_eq_decide.2 ⟨fun h => ht ▸ h.2, fun h => ⟨hq.trans hb.symm, ht ▸ h⟩⟩
    rw [hr]
    skip
    rw [e1] at qE
    generalize hy : decide (0 ≤ i ∧ i ≤ 1023 ∧ 1 ≤ cc ∧ cc ≤ 2147483648) = y
    clear hr e1 hq hb ht
    have hbare := Lib.hid (fun w => pBare_3 a b c d e sv i cc m w)
    have hof := Lib.hid (fun w => pOf_c ⟨3, ⟨a, b, c, d, e⟩, sv, i, cc, m⟩ w)
    skip
    go_enter Tryz.func58, Tryz.ntmps58
    go_wp2
    have c0 := opBlock (w := w.alloc (.cells #[.int .i64 3, .int .i64 a, .int .i64 b, .int .i64 c, .int .i64 d, .int .i64 e, .bool sv, .int .i64 i, .int .i64 cc, .int .i64 m] 36)) (b := w.heap.size) 3 a b c d e sv i cc m (heap_alloc_new' w _)
    first | (go_region_held3 (fun w' => w'.cell? ⟨w.heap.size, 0, none⟩ = some (.int .i64 3) ∧ w'.cell? ⟨w.heap.size, 1, none⟩ = some (.int .i64 a) ∧ w'.cell? ⟨w.heap.size, 2, none⟩ = some (.int .i64 b) ∧ w'.cell? ⟨w.heap.size, 3, none⟩ = some (.int .i64 c) ∧ w'.cell? ⟨w.heap.size, 4, none⟩ = some (.int .i64 d) ∧ w'.cell? ⟨w.heap.size, 5, none⟩ = some (.int .i64 e) ∧ w'.cell? ⟨w.heap.size, 6, none⟩ = some (.bool sv) ∧ w'.cell? ⟨w.heap.size, 7, none⟩ = some (.int .i64 i) ∧ w'.cell? ⟨w.heap.size, 8, none⟩ = some (.int .i64 cc) ∧ w'.cell? ⟨w.heap.size, 9, none⟩ = some (.int .i64 m)) ((first | (go_keep; done) | exact Keeps.op (by assumption) (by assumption) id)) (first | (go_at_call 71; refine (hbare.out _).mono ?_; rintro r w1 ⟨rfl, k1⟩) | (go_at_call 72; refine (hof.out _).mono ?_; rw [hv]; rintro r w2 ⟨rfl, k2⟩) | (go_at_call 123; refine (resizeRight_c i cc _).mono ?_; rw [hy]; rintro r w3 ⟨rfl, k3⟩))) | fail
    clear c0
    go_wp2
    go_ret
    exact ⟨rfl, ((((K.alloc _).drew).trans k1).trans k2).trans k3⟩
  · have e1 : GOp.same ⟨3, ⟨a, b, c, d, e⟩, sv, i, cc, m⟩ ⟨3, ⟨0, 0, 0, 0, 0⟩, false, i, cc, 0⟩ = false := decide_eq_false hq
    have hr : decide (GOp.ok ⟨3, ⟨a, b, c, d, e⟩, sv, i, cc, m⟩) = false :=
      decide_eq_false (fun h => hq (h.1.trans hb))
    rw [hr]
    skip
    rw [e1] at qE
    clear hr e1 hq hb ht hv
    have hbare := Lib.hid (fun w => pBare_3 a b c d e sv i cc m w)
    skip
    go_enter Tryz.func58, Tryz.ntmps58
    go_wp2
    have c0 := opBlock (w := w.alloc (.cells #[.int .i64 3, .int .i64 a, .int .i64 b, .int .i64 c, .int .i64 d, .int .i64 e, .bool sv, .int .i64 i, .int .i64 cc, .int .i64 m] 36)) (b := w.heap.size) 3 a b c d e sv i cc m (heap_alloc_new' w _)
    go_region_with (first | (go_at_call 71; refine (hbare.out _).mono ?_; rintro r w1 ⟨rfl, k1⟩; obtain ⟨f0, f1, f2, f3, f4, f5, f6, f7, f8, f9⟩ := Keeps.op k1 c0 id))
    all_goals clear c0
    all_goals (go_wp2; go_ret; exact ⟨rfl, ((K.alloc _).drew).trans k1⟩)
theorem pOCheck_4 (a b c d e : Int) (sv : Bool) (i cc m : Int) (w : World) : Calls Tryz.prog 58 #[GOp.val ⟨4, ⟨a, b, c, d, e⟩, sv, i, cc, m⟩] w fun r w' => r = .returned (.bool (decide (GOp.ok ⟨4, ⟨a, b, c, d, e⟩, sv, i, cc, m⟩))) ∧ Adds w w' := by
  have K := Keeps.refl (fun _ => False) w
  have hv : ofV ⟨4, ⟨a, b, c, d, e⟩, sv, i, cc, m⟩ = .iface 128 (.agg #[.int .i64 m]) := rfl
  have hb : GOp.bare ⟨4, ⟨a, b, c, d, e⟩, sv, i, cc, m⟩ = ⟨4, ⟨0, 0, 0, 0, 0⟩, false, 0, 0, m⟩ := rfl
  have ht : GOp.right ⟨4, ⟨a, b, c, d, e⟩, sv, i, cc, m⟩ = (0 ≤ m ∧ m < 4) := rfl
  have qE := eqOp 4 4 a 0 b 0 c 0 d 0 e 0 i 0 cc 0 m m sv false
  by_cases hq : (⟨4, ⟨a, b, c, d, e⟩, sv, i, cc, m⟩ : GOp) = ⟨4, ⟨0, 0, 0, 0, 0⟩, false, 0, 0, m⟩
  · have e1 : GOp.same ⟨4, ⟨a, b, c, d, e⟩, sv, i, cc, m⟩ ⟨4, ⟨0, 0, 0, 0, 0⟩, false, 0, 0, m⟩ = true := decide_eq_true hq
    have hr : decide (GOp.ok ⟨4, ⟨a, b, c, d, e⟩, sv, i, cc, m⟩) = decide (0 ≤ m ∧ m < 4) :=
      decide_eq_decide.2 ⟨fun h => ht ▸ h.2, fun h => ⟨hq.trans hb.symm, ht ▸ h⟩⟩
    rw [hr]
    skip
    rw [e1] at qE
    generalize hy : decide (0 ≤ m ∧ m < 4) = y
    clear hr e1 hq hb ht
    have hbare := Lib.hid (fun w => pBare_4 a b c d e sv i cc m w)
    have hof := Lib.hid (fun w => pOf_c ⟨4, ⟨a, b, c, d, e⟩, sv, i, cc, m⟩ w)
    skip
    go_enter Tryz.func58, Tryz.ntmps58
    go_wp2
    have c0 := opBlock (w := w.alloc (.cells #[.int .i64 4, .int .i64 a, .int .i64 b, .int .i64 c, .int .i64 d, .int .i64 e, .bool sv, .int .i64 i, .int .i64 cc, .int .i64 m] 36)) (b := w.heap.size) 4 a b c d e sv i cc m (heap_alloc_new' w _)
    first | (go_region_held3 (fun w' => w'.cell? ⟨w.heap.size, 0, none⟩ = some (.int .i64 4) ∧ w'.cell? ⟨w.heap.size, 1, none⟩ = some (.int .i64 a) ∧ w'.cell? ⟨w.heap.size, 2, none⟩ = some (.int .i64 b) ∧ w'.cell? ⟨w.heap.size, 3, none⟩ = some (.int .i64 c) ∧ w'.cell? ⟨w.heap.size, 4, none⟩ = some (.int .i64 d) ∧ w'.cell? ⟨w.heap.size, 5, none⟩ = some (.int .i64 e) ∧ w'.cell? ⟨w.heap.size, 6, none⟩ = some (.bool sv) ∧ w'.cell? ⟨w.heap.size, 7, none⟩ = some (.int .i64 i) ∧ w'.cell? ⟨w.heap.size, 8, none⟩ = some (.int .i64 cc) ∧ w'.cell? ⟨w.heap.size, 9, none⟩ = some (.int .i64 m)) ((first | (go_keep; done) | exact Keeps.op (by assumption) (by assumption) id)) (first | (go_at_call 71; refine (hbare.out _).mono ?_; rintro r w1 ⟨rfl, k1⟩) | (go_at_call 72; refine (hof.out _).mono ?_; rw [hv]; rintro r w2 ⟨rfl, k2⟩) | (go_at_call 126; refine (modeRight_c m _).mono ?_; rw [hy]; rintro r w3 ⟨rfl, k3⟩))) | fail
    clear c0
    go_wp2
    go_ret
    exact ⟨rfl, ((((K.alloc _).drew).trans k1).trans k2).trans k3⟩
  · have e1 : GOp.same ⟨4, ⟨a, b, c, d, e⟩, sv, i, cc, m⟩ ⟨4, ⟨0, 0, 0, 0, 0⟩, false, 0, 0, m⟩ = false := decide_eq_false hq
    have hr : decide (GOp.ok ⟨4, ⟨a, b, c, d, e⟩, sv, i, cc, m⟩) = false :=
      decide_eq_false (fun h => hq (h.1.trans hb))
    rw [hr]
    skip
    rw [e1] at qE
    clear hr e1 hq hb ht hv
    have hbare := Lib.hid (fun w => pBare_4 a b c d e sv i cc m w)
    skip
    go_enter Tryz.func58, Tryz.ntmps58
    go_wp2
    have c0 := opBlock (w := w.alloc (.cells #[.int .i64 4, .int .i64 a, .int .i64 b, .int .i64 c, .int .i64 d, .int .i64 e, .bool sv, .int .i64 i, .int .i64 cc, .int .i64 m] 36)) (b := w.heap.size) 4 a b c d e sv i cc m (heap_alloc_new' w _)
    go_region_with (first | (go_at_call 71; refine (hbare.out _).mono ?_; rintro r w1 ⟨rfl, k1⟩; obtain ⟨f0, f1, f2, f3, f4, f5, f6, f7, f8, f9⟩ := Keeps.op k1 c0 id))
    all_goals clear c0
    all_goals (go_wp2; go_ret; exact ⟨rfl, ((K.alloc _).drew).trans k1⟩)
theorem pOCheck_k (k : Int) (h1 : k ≠ 1) (h2 : k ≠ 2) (h3 : k ≠ 3) (h4 : k ≠ 4) (a b c d e : Int) (sv : Bool) (i cc m : Int) (w : World) : Calls Tryz.prog 58 #[GOp.val ⟨k, ⟨a, b, c, d, e⟩, sv, i, cc, m⟩] w fun r w' => r = .returned (.bool (decide (GOp.ok ⟨k, ⟨a, b, c, d, e⟩, sv, i, cc, m⟩))) ∧ Adds w w' := by
  have K := Keeps.refl (fun _ => False) w
  have hv : ofV ⟨k, ⟨a, b, c, d, e⟩, sv, i, cc, m⟩ = .iface 130 (.agg #[.int .i64 k]) := by simp only [ofV, if_neg h1, if_neg h2, if_neg h3, if_neg h4]
  have hb : GOp.bare ⟨k, ⟨a, b, c, d, e⟩, sv, i, cc, m⟩ = ⟨k, ⟨0, 0, 0, 0, 0⟩, false, 0, 0, 0⟩ := by simp only [GOp.bare, if_neg h1, if_neg h2, if_neg h3, if_neg h4]
  have ht : GOp.right ⟨k, ⟨a, b, c, d, e⟩, sv, i, cc, m⟩ = (False) := by simp only [GOp.right, if_neg h1, if_neg h2, if_neg h3, if_neg h4]
  have qE := eqOp k k a 0 b 0 c 0 d 0 e 0 i 0 cc 0 m 0 sv false
  by_cases hq : (⟨k, ⟨a, b, c, d, e⟩, sv, i, cc, m⟩ : GOp) = ⟨k, ⟨0, 0, 0, 0, 0⟩, false, 0, 0, 0⟩
  · have e1 : GOp.same ⟨k, ⟨a, b, c, d, e⟩, sv, i, cc, m⟩ ⟨k, ⟨0, 0, 0, 0, 0⟩, false, 0, 0, 0⟩ = true := decide_eq_true hq
    have hr : decide (GOp.ok ⟨k, ⟨a, b, c, d, e⟩, sv, i, cc, m⟩) = decide (False) :=
      decide_eq_decide.2 ⟨fun h => ht ▸ h.2, fun h => ⟨hq.trans hb.symm, ht ▸ h⟩⟩
    rw [hr]
    skip
    rw [e1] at qE
    generalize hy : decide (False) = y
    clear hr e1 hq hb ht
    have hbare := Lib.hid (fun w => pBare_k k h1 h2 h3 h4 a b c d e sv i cc m w)
    have hof := Lib.hid (fun w => pOf_c ⟨k, ⟨a, b, c, d, e⟩, sv, i, cc, m⟩ w)
    clear h1 h2 h3 h4
    go_enter Tryz.func58, Tryz.ntmps58
    go_wp2
    have c0 := opBlock (w := w.alloc (.cells #[.int .i64 k, .int .i64 a, .int .i64 b, .int .i64 c, .int .i64 d, .int .i64 e, .bool sv, .int .i64 i, .int .i64 cc, .int .i64 m] 36)) (b := w.heap.size) k a b c d e sv i cc m (heap_alloc_new' w _)
    first | (go_region_held3 (fun w' => w'.cell? ⟨w.heap.size, 0, none⟩ = some (.int .i64 k) ∧ w'.cell? ⟨w.heap.size, 1, none⟩ = some (.int .i64 a) ∧ w'.cell? ⟨w.heap.size, 2, none⟩ = some (.int .i64 b) ∧ w'.cell? ⟨w.heap.size, 3, none⟩ = some (.int .i64 c) ∧ w'.cell? ⟨w.heap.size, 4, none⟩ = some (.int .i64 d) ∧ w'.cell? ⟨w.heap.size, 5, none⟩ = some (.int .i64 e) ∧ w'.cell? ⟨w.heap.size, 6, none⟩ = some (.bool sv) ∧ w'.cell? ⟨w.heap.size, 7, none⟩ = some (.int .i64 i) ∧ w'.cell? ⟨w.heap.size, 8, none⟩ = some (.int .i64 cc) ∧ w'.cell? ⟨w.heap.size, 9, none⟩ = some (.int .i64 m)) ((first | (go_keep; done) | exact Keeps.op (by assumption) (by assumption) id)) (first | (go_at_call 71; refine (hbare.out _).mono ?_; rintro r w1 ⟨rfl, k1⟩) | (go_at_call 72; refine (hof.out _).mono ?_; rw [hv]; rintro r w2 ⟨rfl, k2⟩) | (go_at_call 129; refine (otherRight_c k _).mono ?_; rintro r w3 ⟨rfl, k3⟩))) | fail
    clear c0
    go_wp2
    go_ret
    exact ⟨by rw [← hy]; rfl, ((((K.alloc _).drew).trans k1).trans k2).trans k3⟩
  · have e1 : GOp.same ⟨k, ⟨a, b, c, d, e⟩, sv, i, cc, m⟩ ⟨k, ⟨0, 0, 0, 0, 0⟩, false, 0, 0, 0⟩ = false := decide_eq_false hq
    have hr : decide (GOp.ok ⟨k, ⟨a, b, c, d, e⟩, sv, i, cc, m⟩) = false :=
      decide_eq_false (fun h => hq (h.1.trans hb))
    rw [hr]
    skip
    rw [e1] at qE
    clear hr e1 hq hb ht hv
    have hbare := Lib.hid (fun w => pBare_k k h1 h2 h3 h4 a b c d e sv i cc m w)
    clear h1 h2 h3 h4
    go_enter Tryz.func58, Tryz.ntmps58
    go_wp2
    have c0 := opBlock (w := w.alloc (.cells #[.int .i64 k, .int .i64 a, .int .i64 b, .int .i64 c, .int .i64 d, .int .i64 e, .bool sv, .int .i64 i, .int .i64 cc, .int .i64 m] 36)) (b := w.heap.size) k a b c d e sv i cc m (heap_alloc_new' w _)
    go_region_with (first | (go_at_call 71; refine (hbare.out _).mono ?_; rintro r w1 ⟨rfl, k1⟩; obtain ⟨f0, f1, f2, f3, f4, f5, f6, f7, f8, f9⟩ := Keeps.op k1 c0 id))
    all_goals clear c0
    all_goals (go_wp2; go_ret; exact ⟨rfl, ((K.alloc _).drew).trans k1⟩)
theorem pOCheck_c (o : GOp) (w : World) : Calls Tryz.prog 58 #[o.val] w fun r w' => r = .returned (.bool (decide o.ok)) ∧ Adds w w' := by
  obtain ⟨k, ⟨a, b, c, d, e⟩, sv, i, cc, m⟩ := o
  by_cases h1 : k = 1
  · subst h1; exact pOCheck_1 a b c d e sv i cc m w
  by_cases h2 : k = 2
  · subst h2; exact pOCheck_2 a b c d e sv i cc m w
  by_cases h3 : k = 3
  · subst h3; exact pOCheck_3 a b c d e sv i cc m w
  by_cases h4 : k = 4
  · subst h4; exact pOCheck_4 a b c d e sv i cc m w
  exact pOCheck_k k h1 h2 h3 h4 a b c d e sv i cc m w
end Go.Proofs.YtoeinhlmkpgjhaaGreatDoor
namespace Go.Proofs.YtoeinhlmkpgjhaaGreatDoor
open Go.RowKit
set_option linter.unusedVariables false
theorem BuR.off {T b : Nat} {r : Option Nat} {bs : List UInt8} {w : World} (h : BuR T 0 b r bs w) {i : Nat} (hi : w.heap.size ≤ i) : ¬ (i = b ∨ r = some i) := by
  intro hx
  rcases hx with hx | hx
  · obtain ⟨_, _, _, hb, _⟩ := h
    have := lt_of_heap hb
    omega
  · have := (h.lt _ hx).2.1
    omega
end Go.Proofs.YtoeinhlmkpgjhaaGreatDoor
namespace Go.Proofs.YtoeinhlmkpgjhaaGreatDoor
open Go.RowKit
set_option linter.unusedVariables false
set_option linter.unusedSimpArgs false
end Go.Proofs.YtoeinhlmkpgjhaaGreatDoor
namespace Go.Proofs.YtoeinhlmkpgjhaaGreatDoor
open Go.RowKit
set_option linter.unusedVariables false
set_option linter.unusedSimpArgs false
def GOp.enc (o : GOp) : List UInt8 :=
  if o.kind = 1 then encNum 1 ++ (encNum o.task.id.toNat ++ (encNum o.task.c.toNat ++ (encNum o.task.d.toNat ++ (encNum o.task.t.toNat ++ (encNum o.task.m.toNat ++ encFlag o.sv)))))
  else if o.kind = 2 then encNum 2 ++ encNum o.id.toNat
  else if o.kind = 3 then encNum 3 ++ (encNum o.id.toNat ++ encNum o.c.toNat)
  else encNum 4 ++ encNum o.m.toNat
end Go.Proofs.YtoeinhlmkpgjhaaGreatDoor
namespace Go.Proofs.YtoeinhlmkpgjhaaGreatDoor
open Go.RowKit
set_option linter.unusedVariables false
set_option linter.unusedSimpArgs false
end Go.Proofs.YtoeinhlmkpgjhaaGreatDoor
namespace Go.Proofs.YtoeinhlmkpgjhaaGreatDoor
open Go.RowKit
set_option linter.unusedVariables false
set_option linter.unusedSimpArgs false
end Go.Proofs.YtoeinhlmkpgjhaaGreatDoor
namespace Go.Proofs.YtoeinhlmkpgjhaaGreatDoor
open Go.RowKit
set_option linter.unusedVariables false
set_option linter.unusedSimpArgs false
set_option maxRecDepth 100000 in
theorem u13Bare_1 (a b c d e : Int) (sv : Bool) (i cc m : Int) (w : World) : Calls Tryz.prog 68 #[GOp.val ⟨1, ⟨a, b, c, d, e⟩, sv, i, cc, m⟩] w fun r w' => r = .returned (GOp.val ⟨1, ⟨a, b, c, d, e⟩, sv, 0, 0, 0⟩) ∧ Adds w w' := by
  have K := Keeps.refl (fun _ => False) w
  go_enter Tryz.func68, Tryz.ntmps68
  go_wp2
  go_returns
  exact ⟨rfl, by (repeat (first | assumption | exact Keeps.refl _ _ | exact Keeps.trans_alloc (by assumption) | (refine Keeps.alloc ?_ _) | (refine Keeps.drew ?_) | (refine Keeps.drewN ?_ _) | (refine Keeps.setCell ?_ _ _ (fun h => by simp at h; try omega)) | (refine Keeps.setCell ?_ _ _ (fun h => absurd h (by simp; try omega)))))⟩
set_option maxRecDepth 100000 in
theorem u13Bare_2 (a b c d e : Int) (sv : Bool) (i cc m : Int) (w : World) : Calls Tryz.prog 68 #[GOp.val ⟨2, ⟨a, b, c, d, e⟩, sv, i, cc, m⟩] w fun r w' => r = .returned (GOp.val ⟨2, ⟨0, 0, 0, 0, 0⟩, false, i, 0, 0⟩) ∧ Adds w w' := by
  have K := Keeps.refl (fun _ => False) w
  go_enter Tryz.func68, Tryz.ntmps68
  go_wp2
  go_returns
  exact ⟨rfl, by (repeat (first | assumption | exact Keeps.refl _ _ | exact Keeps.trans_alloc (by assumption) | (refine Keeps.alloc ?_ _) | (refine Keeps.drew ?_) | (refine Keeps.drewN ?_ _) | (refine Keeps.setCell ?_ _ _ (fun h => by simp at h; try omega)) | (refine Keeps.setCell ?_ _ _ (fun h => absurd h (by simp; try omega)))))⟩
set_option maxRecDepth 100000 in
theorem u13Bare_3 (a b c d e : Int) (sv : Bool) (i cc m : Int) (w : World) : Calls Tryz.prog 68 #[GOp.val ⟨3, ⟨a, b, c, d, e⟩, sv, i, cc, m⟩] w fun r w' => r = .returned (GOp.val ⟨3, ⟨0, 0, 0, 0, 0⟩, false, i, cc, 0⟩) ∧ Adds w w' := by
  have K := Keeps.refl (fun _ => False) w
  go_enter Tryz.func68, Tryz.ntmps68
  go_wp2
  go_returns
  exact ⟨rfl, by (repeat (first | assumption | exact Keeps.refl _ _ | exact Keeps.trans_alloc (by assumption) | (refine Keeps.alloc ?_ _) | (refine Keeps.drew ?_) | (refine Keeps.drewN ?_ _) | (refine Keeps.setCell ?_ _ _ (fun h => by simp at h; try omega)) | (refine Keeps.setCell ?_ _ _ (fun h => absurd h (by simp; try omega)))))⟩
set_option maxRecDepth 100000 in
theorem u13Bare_4 (a b c d e : Int) (sv : Bool) (i cc m : Int) (w : World) : Calls Tryz.prog 68 #[GOp.val ⟨4, ⟨a, b, c, d, e⟩, sv, i, cc, m⟩] w fun r w' => r = .returned (GOp.val ⟨4, ⟨0, 0, 0, 0, 0⟩, false, 0, 0, m⟩) ∧ Adds w w' := by
  have K := Keeps.refl (fun _ => False) w
  go_enter Tryz.func68, Tryz.ntmps68
  go_wp2
  go_returns
  exact ⟨rfl, by (repeat (first | assumption | exact Keeps.refl _ _ | exact Keeps.trans_alloc (by assumption) | (refine Keeps.alloc ?_ _) | (refine Keeps.drew ?_) | (refine Keeps.drewN ?_ _) | (refine Keeps.setCell ?_ _ _ (fun h => by simp at h; try omega)) | (refine Keeps.setCell ?_ _ _ (fun h => absurd h (by simp; try omega)))))⟩
set_option maxRecDepth 100000 in
theorem u13Bare_k (k : Int) (b1 : (k == 1) = false) (b2 : (k == 2) = false) (b3 : (k == 3) = false) (b4 : (k == 4) = false) (a b c d e : Int) (sv : Bool) (i cc m : Int) (w : World) : Calls Tryz.prog 68 #[GOp.val ⟨k, ⟨a, b, c, d, e⟩, sv, i, cc, m⟩] w fun r w' => r = .returned (GOp.val ⟨k, ⟨0, 0, 0, 0, 0⟩, false, 0, 0, 0⟩) ∧ Adds w w' := by
  have K := Keeps.refl (fun _ => False) w
  go_enter Tryz.func68, Tryz.ntmps68
  go_wp2
  go_returns
  exact ⟨rfl, by (repeat (first | assumption | exact Keeps.refl _ _ | exact Keeps.trans_alloc (by assumption) | (refine Keeps.alloc ?_ _) | (refine Keeps.drew ?_) | (refine Keeps.drewN ?_ _) | (refine Keeps.setCell ?_ _ _ (fun h => by simp at h; try omega)) | (refine Keeps.setCell ?_ _ _ (fun h => absurd h (by simp; try omega)))))⟩
theorem u13Bare_c (o : GOp) (w : World) : Calls Tryz.prog 68 #[o.val] w fun r w' => r = .returned o.bare.val ∧ Adds w w' := by
  obtain ⟨k, ⟨a, b, c, d, e⟩, sv, i, cc, m⟩ := o
  simp only [GOp.bare]
  by_cases h1 : k = 1
  · rw [if_pos h1]; subst h1; exact u13Bare_1 a b c d e sv i cc m w
  by_cases h2 : k = 2
  · rw [if_neg h1, if_pos h2]; subst h2; exact u13Bare_2 a b c d e sv i cc m w
  by_cases h3 : k = 3
  · rw [if_neg h1, if_neg h2, if_pos h3]; subst h3; exact u13Bare_3 a b c d e sv i cc m w
  by_cases h4 : k = 4
  · rw [if_neg h1, if_neg h2, if_neg h3, if_pos h4]; subst h4; exact u13Bare_4 a b c d e sv i cc m w
  rw [if_neg h1, if_neg h2, if_neg h3, if_neg h4]
  exact u13Bare_k k (by simpa using h1) (by simpa using h2) (by simpa using h3) (by simpa using h4) a b c d e sv i cc m w
end Go.Proofs.YtoeinhlmkpgjhaaGreatDoor
namespace Go.Proofs.YtoeinhlmkpgjhaaGreatDoor
open Go.RowKit
set_option linter.unusedVariables false
set_option linter.unusedSimpArgs false
theorem neqOp (k k' a a' b b' c c' d d' e e' i i' cc cc' m m' : Int) (sv sv' : Bool) (w : World) :
    (binOp .neq 36 (.agg #[.int .i64 k, .int .i64 a, .int .i64 b, .int .i64 c, .int .i64 d, .int .i64 e, .bool sv, .int .i64 i, .int .i64 cc, .int .i64 m]) (.agg #[.int .i64 k', .int .i64 a', .int .i64 b', .int .i64 c', .int .i64 d', .int .i64 e', .bool sv', .int .i64 i', .int .i64 cc', .int .i64 m'])).run Tryz.prog w = .ok (.bool (!(GOp.same ⟨k, ⟨a, b, c, d, e⟩, sv, i, cc, m⟩ ⟨k', ⟨a', b', c', d', e'⟩, sv', i', cc', m'⟩))) w := by
  have h := eqOp k k' a a' b b' c c' d d' e e' i i' cc cc' m m' sv sv' w
  rw [run_eql_struct] at h
  rw [run_neq_struct]
  generalize (Op.equalIn 10000 36 _ _).run Tryz.prog w = r at h ⊢
  cases r with
  | ok v w' => simp only [Result.andThen_ok, Result.ok.injEq, Value.bool.injEq] at h ⊢; exact ⟨by rw [h.1], h.2⟩
  | halt x w' => simp [Result.andThen] at h
theorem eqOpV (o p : GOp) (w : World) : (binOp .eql 36 o.val p.val).run Tryz.prog w = .ok (.bool (GOp.same o p)) w := eqOp o.kind p.kind o.task.id p.task.id o.task.c p.task.c o.task.d p.task.d o.task.t p.task.t o.task.m p.task.m o.id p.id o.c p.c o.m p.m o.sv p.sv w
theorem neqOpV (o p : GOp) (w : World) : (binOp .neq 36 o.val p.val).run Tryz.prog w = .ok (.bool (!(GOp.same o p))) w := neqOp o.kind p.kind o.task.id p.task.id o.task.c p.task.c o.task.d p.task.d o.task.t p.task.t o.task.m p.task.m o.id p.id o.c p.c o.m p.m o.sv p.sv w
theorem same_true {o p : GOp} (h : GOp.same o p = true) : o = p := of_decide_eq_true h
theorem same_false {o p : GOp} (h : GOp.same o p = false) : o ≠ p := of_decide_eq_false h
theorem ok_ne {o : GOp} (h : o ≠ o.bare) : false = decide o.ok := (decide_eq_false (fun k => h k.1)).symm
theorem ok_eq {o : GOp} (h : o = o.bare) : decide o.ok = decide o.right := by
  rw [Bool.eq_iff_iff, decide_eq_true_eq, decide_eq_true_eq]; exact ⟨fun k => k.2, fun k => ⟨h, k⟩⟩
theorem bare_id {o : GOp} (h : o = o.bare) (h2 : o.kind ≠ 2) (h3 : o.kind ≠ 3) : o.id = 0 := by
  rw [h]
  simp only [GOp.bare, if_neg h2, if_neg h3]
  split
  · rfl
  · split <;> rfl
theorem ok_lo {o : GOp} (h : o = o.bare) (hi : o.id < 0) : false = decide o.ok := by
  rw [ok_eq h]
  refine (decide_eq_false fun k => ?_).symm
  unfold GOp.right at k
  by_cases h2 : o.kind = 2
  · simp [h2] at k; omega
  by_cases h3 : o.kind = 3
  · simp [h3] at k; omega
  have := bare_id h h2 h3; omega
theorem ok_hi {o : GOp} (h : o = o.bare) (hi : o.id > 1023) : false = decide o.ok := by
  rw [ok_eq h]
  refine (decide_eq_false fun k => ?_).symm
  unfold GOp.right at k
  by_cases h2 : o.kind = 2
  · simp [h2] at k; omega
  by_cases h3 : o.kind = 3
  · simp [h3] at k; omega
  have := bare_id h h2 h3; omega
structure OpB (o : GOp) : Prop where
  kl : 1 ≤ o.kind
  kh : o.kind ≤ 4
  il : 0 ≤ o.id
  ih : o.id ≤ 1023
  cl : 0 ≤ o.c
  ch : o.c ≤ 2147483648
  ml : 0 ≤ o.m
  mh : o.m ≤ 3
  tidl : 0 ≤ o.task.id
  tidh : o.task.id ≤ 1023
  tcl : 0 ≤ o.task.c
  tch : o.task.c ≤ 2147483648
  tdl : 0 ≤ o.task.d
  tdh : o.task.d ≤ 2147483648
  ttl : 0 ≤ o.task.t
  tth : o.task.t ≤ 2147483648
  tml : 0 ≤ o.task.m
  tmh : o.task.m ≤ 15
theorem GOp.ok.b {o : GOp} (h : o.ok) : OpB o := by
  obtain ⟨k, ⟨a, b, c, d, e⟩, sv, i, cc, m⟩ := o
  obtain ⟨h1, h2⟩ := h
  simp only [GOp.bare, GOp.right, GTask.ok] at h1 h2
  by_cases k1 : k = 1
  · simp only [k1, if_true, GOp.mk.injEq, GTask.mk.injEq] at h1 h2
    constructor <;> simp only <;> omega
  by_cases k2 : k = 2
  · simp [k2] at h1 h2
    constructor <;> simp only <;> omega
  by_cases k3 : k = 3
  · simp [k3] at h1 h2
    constructor <;> simp only <;> omega
  by_cases k4 : k = 4
  · simp [k4] at h1 h2
    constructor <;> simp only <;> omega
  · simp [k1, k2, k3, k4] at h2
def GOp.tl (o : GOp) : List UInt8 :=
  if o.kind = 1 then encNum o.task.id.toNat ++ (encNum o.task.c.toNat ++ (encNum o.task.d.toNat ++ (encNum o.task.t.toNat ++ (encNum o.task.m.toNat ++ encFlag o.sv))))
  else if o.kind = 2 then encNum o.id.toNat
  else if o.kind = 3 then encNum o.id.toNat ++ encNum o.c.toNat
  else encNum o.m.toNat
end Go.Proofs.YtoeinhlmkpgjhaaGreatDoor
namespace Go.Proofs.YtoeinhlmkpgjhaaGreatDoor
open Go.RowKit
set_option linter.unusedVariables false
set_option linter.unusedSimpArgs false
end Go.Proofs.YtoeinhlmkpgjhaaGreatDoor
namespace Go.Proofs.YtoeinhlmkpgjhaaGreatDoor
open Go.RowKit
set_option linter.unusedVariables false
set_option linter.unusedSimpArgs false
structure GRow where
  task : GTask
  sv : Bool
deriving DecidableEq
structure GTable where
  rows : List GRow
  mode : Int
deriving DecidableEq
abbrev GRow.val (r : GRow) : Value := .agg #[.int .i64 r.task.id, .int .i64 r.task.c, .int .i64 r.task.d, .int .i64 r.task.t, .int .i64 r.task.m, .bool r.sv]
def GRow.ok (r : GRow) : Prop := r.task.ok ∧ (r.sv = true → r.task.d = r.task.t)
def upTo (rows : List GRow) (n : Nat) : Prop := ∀ i r, i < n → rows[i]? = some r → r.ok ∧ ∀ j q, j + 1 = i → rows[j]? = some q → q.task.id < r.task.id
def GTable.ok (t : GTable) : Prop := upTo t.rows t.rows.length ∧ t.rows.length ≤ 16 ∧ 0 ≤ t.mode ∧ t.mode ≤ 3
theorem eqTaskV (t u : GTask) (w : World) : (binOp .eql 29 t.val u.val).run Tryz.prog w = .ok (.bool (decide (t = u))) w := by
  obtain ⟨a, b, c, d, e⟩ := t
  obtain ⟨a', b', c', d', e'⟩ := u
  have hs : decide ((⟨a, b, c, d, e⟩ : GTask) = ⟨a', b', c', d', e'⟩) = decide (a = a' ∧ b = b' ∧ c = c' ∧ d = d' ∧ e = e') := by simp only [GTask.mk.injEq]
  rw [hs]; clear hs
  simp [go_sem]
  repeat' split
  all_goals simp_all
theorem eqTaskS (t : GTask) (w : World) : (binOp .eql 29 t.val t.val).run Tryz.prog w = .ok (.bool true) w := by rw [eqTaskV]; simp
def GRow.zero : GRow := ⟨⟨0, 0, 0, 0, 0⟩, false⟩
end Go.Proofs.YtoeinhlmkpgjhaaGreatDoor
