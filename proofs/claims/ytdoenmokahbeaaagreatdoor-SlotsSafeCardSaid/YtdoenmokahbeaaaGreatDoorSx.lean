
/- A walk step by step: a frame as a list of slots; one rule for each kind of operation. -/
import Derived.Test.YtdoenmokahbeaaaGreatDoorMem
import Derived.Tactics
import Derived.Deep.LoopGhost
import Derived.Deep.Quiet
import Derived.StillTail
import Derived.KernelRfl
import Derived.IntWalk
import Derived.TacticsIn
import Derived.OrdersIn
import Derived.Sort.LoopGhostIn
namespace Go.Proofs.YtdoenmokahbeaaaGreatDoor
open Go.RowKit
set_option linter.unusedVariables false
set_option linter.unusedSimpArgs false

abbrev Fr := List (Nat × Value)
def look : Fr → Nat → Option Value
  | [], _ => none
  | p :: l, t => bif Nat.beq p.1 t then some p.2 else look l t
def ev (fr : Fr) : Operand → Option Value
  | .tmp t => look fr t
  | .const v => some v
  | .global g => some (.pointer (some ⟨g, 0, none⟩))
  | .func f => some (.func (.func f) #[] #[])
def evf (fr : Fr) (x : Operand) : Value := (ev fr x).getD undef
def evs (fr : Fr) : List Operand → Option (List Value)
  | [] => some []
  | x :: l => match ev fr x, evs fr l with
    | some v, some vs => some (v :: vs)
    | _, _ => none
/-- What a walk is in: how many slots; the round (of a range over a function); the deferred calls. -/
structure Md where
  n : Nat
  R : Option Nat
  D : List Deferred
abbrev fz (R : Option Nat) : Fence := { Fence.wide with round := R }
structure FrOk (n : Md) (fr : Fr) (a : Act) : Prop where
  defers : a.defers = n.D
  size : a.tmps.size = n.n
  val : ∀ t v, look fr t = some v → a.tmps[t]? = some v

theorem FrOk.put {n : Md} {d : Nat} {fr : Fr} {a : Act} (h : FrOk n fr a) (hd : Nat.blt d n.n = true) (v : Value) : FrOk n ((d, v) :: fr) (a.put (some d) v) := by
  have hd' : d < n.n := by simpa [Nat.blt_eq] using hd
  refine ⟨h.defers, by simpa [Act.put] using h.size, fun t u hu => ?_⟩
  simp only [look] at hu
  by_cases e : d = t
  · subst e
    simp only [Nat.beq_eq_true_eq, BEq.rfl, Nat.beq_refl, cond_true, Option.some.injEq] at hu
    subst hu
    simp [Act.put, h.size, hd']
  · have : Nat.beq d t = false := by
      cases hb : Nat.beq d t with
      | false => rfl
      | true => exact absurd (Nat.eq_of_beq_eq_true hb) e
    rw [this] at hu
    simp only [cond_false] at hu
    have := h.val t u hu
    simp [Act.put, Array.getElem?_setIfInBounds, e, this]
theorem FrOk.none {n : Md} {fr : Fr} {a : Act} (h : FrOk n fr a) (v : Value) : FrOk n fr (a.put none v) := h
theorem FrOk.eval {n : Md} {fr : Fr} {a : Act} (h : FrOk n fr a) {x : Operand} {v : Value} (he : ev fr x = some v) : a.eval x = v := by
  cases x with
  | tmp t => have := h.val t v he; simp [Act.eval, Array.getD_eq_getD_getElem?, this]
  | const u => simpa [ev, Act.eval] using he
  | global g => simpa [ev, Act.eval] using he
  | func f => simpa [ev, Act.eval] using he
theorem FrOk.evs {n : Md} {fr : Fr} {a : Act} (h : FrOk n fr a) : ∀ {xs : List Operand} {vs : List Value}, evs fr xs = some vs → xs.map a.eval = vs
  | [], vs, he => by simpa [Go.Proofs.YtdoenmokahbeaaaGreatDoor.evs] using he
  | x :: l, vs, he => by
    simp only [Go.Proofs.YtdoenmokahbeaaaGreatDoor.evs] at he
    cases h1 : ev fr x with
    | none => simp [h1] at he
    | some v =>
      cases h2 : Go.Proofs.YtdoenmokahbeaaaGreatDoor.evs fr l with
      | none => simp [h1, h2] at he
      | some us =>
        simp only [h1, h2, Option.some.injEq] at he
        subst he
        simp [h.eval h1, h.evs h2]

def Sub : Fr → Fr → Prop
  | [], _ => True
  | p :: l, fr => look fr p.1 = some p.2 ∧ Sub l fr
theorem Sub.look {F fr : Fr} (h : Sub F fr) {t : Nat} {v : Value} (hl : look F t = some v) : look fr t = some v := by
  induction F with
  | nil => simp [Go.Proofs.YtdoenmokahbeaaaGreatDoor.look] at hl
  | cons p l ih =>
    simp only [Go.Proofs.YtdoenmokahbeaaaGreatDoor.look] at hl
    cases hb : Nat.beq p.1 t with
    | true =>
      rw [hb] at hl
      simp only [cond_true, Option.some.injEq] at hl
      rw [← Nat.eq_of_beq_eq_true hb, ← hl]
      exact h.1
    | false => rw [hb] at hl; exact ih h.2 hl
theorem FrOk.sub {n : Md} {F fr : Fr} {a : Act} (h : FrOk n fr a) (hs : Sub F fr) : FrOk n F a := ⟨h.defers, h.size, fun t v hl => h.val t v (hs.look hl)⟩

def notSel : Op → Bool
  | .select _ _ => false
  | .defer _ => false
  | _ => true
def okOps (fr : Fr) (o : Oper) : Bool := notSel o.op && o.op.operands.toList.all fun x => (ev fr x).isSome
theorem FrOk.exec {n : Md} {fr : Fr} {a : Act} (h : FrOk n fr a) {o : Oper} (ho : okOps fr o = true) : execOp a.eval o = execOp (evf fr) o := by
  simp only [okOps, Bool.and_eq_true, List.all_eq_true] at ho
  refine execOp_congr o (fun cs b e => by rw [e] at ho; simp [notSel] at ho) (fun x hx => ?_)
  have := ho.2 x (by simpa using hx)
  obtain ⟨v, hv⟩ := Option.isSome_iff_exists.1 this
  rw [h.eval hv, evf, hv]
  rfl
/-- Whether an operation is wanted, as far as the frame tells. -/
def want (ops : Array Oper) (fr : Fr) (o : Oper) : Option Bool :=
  match o.guard with
  | none => some true
  | some (j, b) => match (ops[j]?).bind (·.dst) with
    | some t => match look fr t with
      | some (.bool c) => some (c == b)
      | some (.tuple _) => some false
      | _ => none
    | none => some false
theorem FrOk.want {n : Md} {fr : Fr} {a : Act} (h : FrOk n fr a) {ops : Array Oper} {o : Oper} {c : Bool} (hw : want ops fr o = some c) : Region.wanted o (yielded ops a.tmps) = c := by
  unfold Go.Proofs.YtdoenmokahbeaaaGreatDoor.want at hw
  unfold Region.wanted
  cases hg : o.guard with
  | none => simp only [hg, Option.some.injEq] at hw; simp [← hw]
  | some p =>
    obtain ⟨j, b⟩ := p
    simp only [hg] at hw
    simp only [yielded]
    cases ht : (ops[j]?).bind (·.dst) with
    | none => simp only [ht, Option.some.injEq] at hw; subst hw; simp
    | some t =>
      simp only [ht] at hw
      cases hl : look fr t with
      | none => simp [hl] at hw
      | some v =>
        have hv := h.val t v hl
        cases v <;> simp only [hl, reduceCtorEq, Option.some.injEq] at hw
        all_goals (subst hw; simp [hv])

theorem str_eql (a b : List UInt8) : Value.bool (ByteArray.toList ⟨a.toArray⟩ == ByteArray.toList ⟨b.toArray⟩) = .bool (decide (a = b)) := by
  rw [ByteArray.toList_eq, ByteArray.toList_eq]
  congr 1
  rw [Bool.eq_iff_iff]; simp
theorem str_neq (a b : List UInt8) : Value.bool (!(ByteArray.toList ⟨a.toArray⟩ == ByteArray.toList ⟨b.toArray⟩)) = .bool (!(decide (a = b))) := by
  rw [ByteArray.toList_eq, ByteArray.toList_eq]
  congr 2
  rw [Bool.eq_iff_iff]; simp
theorem str_eqs (a : List UInt8) : Value.bool (ByteArray.toList ⟨a.toArray⟩ == ByteArray.toList ⟨a.toArray⟩) = .bool true := by simp
theorem cat_run {P : Program} {w : World} {T : TypeId} {a b : List UInt8} (h : a.length + b.length ≤ 9223372036854775807) : (binOp .add T (.string ⟨a.toArray⟩) (.string ⟨b.toArray⟩)).run P w = .ok (.string ⟨(a ++ b).toArray⟩) w := by
  have h1 : ¬ ((((⟨a.toArray⟩ : ByteArray).size + (⟨b.toArray⟩ : ByteArray).size : Nat) : Int) > IntKind.i64.max) := by
    have e1 : (⟨a.toArray⟩ : ByteArray).size = a.length := rfl
    have e2 : (⟨b.toArray⟩ : ByteArray).size = b.length := rfl
    rw [e1, e2]
    have : IntKind.i64.max = 9223372036854775807 := by decide
    omega
  simp only [binOp, Op.stringOp, if_neg h1, Sem.run_pure, str_app]
theorem bsplit {X : Prop} (c : Bool) (h1 : c = true → X) (h2 : c = false → X) : X := match c, h1, h2 with | true, h1, _ => h1 rfl | false, _, h2 => h2 rfl
/-! ### judgements -/
section
variable {P : Program} {ops : Array Oper} {n : Md} {Q : Exit → Act → World → Prop} {rest : List Oper} {fr : Fr} {w : World}
theorem calls_fz {R0 : Option Nat} {f : FuncId} {args : Array Value} {R : Ending → World → Prop} {m : Nat} (h : Calls P f args w R) : CallsIn (fz R0) m P f args w R := (callsIn_wide (n := m)).2 h
theorem rows_fz {R0 : Option Nat} {row : String} {args : Array Value} {R : Value → World → Prop} {m : Nat} (h : Rows P row args w R) : RowsIn (fz R0) m P row args w R := fun c cs _ =>
  let ⟨v, w', r, s⟩ := h c cs
  ⟨v, w', r, stepsIn_wide.2 s⟩
theorem okOps_nd {o : Oper} (h : okOps fr o = true) : notSel o.op = true := by
  simp only [okOps, Bool.and_eq_true] at h; exact h.1
/-- An operation's word, in a round too. -/
theorem opLift {R0 : Option Nat} {o : Oper} {a : Act} {K : Act → World → Prop} (nd : notSel o.op = true) (h : o.wp P a w K Q) : o.wpIn (fz R0) 0 P a w K Q := by
  unfold Oper.wp at h
  refine ⟨fun _ _ => trivial, ?_⟩
  rw [Oper.semAt_eq _ _ _ (fun c e => by rw [e] at nd; simp [notSel] at nd)]
  generalize (execOp a.eval o).run P w = r at *
  cases r with
  | ok x w' =>
    cases x <;> simp only [Oper.upon, Oper.uponIn] at h ⊢
    case enter f args => exact ⟨fun h => by simp [Fence.wide] at h, calls_fz (Calls.mono h fun e w'' he => by cases e <;> exact he)⟩
    case row r args => exact ⟨fun h => by simp [Fence.wide] at h, rows_fz h⟩
    all_goals exact h
  | halt x w' => cases x <;> simp only [Oper.upon, Oper.uponIn] at h ⊢ <;> exact h
def WL (P : Program) (ops : Array Oper) (n : Md) (Q : Exit → Act → World → Prop) (rest : List Oper) (fr : Fr) (w : World) : Prop := ∀ a, FrOk n fr a → wpListIn (fz n.R) 0 P ops Q rest a w
def WC (P : Program) (n : Md) (Q : Exit → Act → World → Prop) (c : Code) (fr : Fr) (w : World) : Prop := ∀ a, FrOk n fr a → c.wpIn (fz n.R) 0 P Q a w
def WX (n : Md) (Q : Exit → Act → World → Prop) (e : Exit) (fr : Fr) (w : World) : Prop := ∀ a, FrOk n fr a → Q e a w

theorem WL.nil (h : WX n Q .normal fr w) : WL P ops n Q [] fr w := fun a ha => wpListIn_nil (h a ha)
theorem WL.wanted {o : Oper} (hw : want ops fr o = some true) (h : ∀ a, FrOk n fr a → ∀ K : Act → World → Prop, (∀ a w, wpListIn (fz n.R) 0 P ops Q rest a w → K a w) → o.wp P a w K Q) (nd : notSel o.op = true := by first | rfl | exact okOps_nd (by assumption)) : WL P ops n Q (o :: rest) fr w := by
  intro a ha
  refine wpListIn_step fun K hK => ?_
  rw [ha.want hw, if_pos rfl]
  exact opLift nd (h a ha K hK)
theorem WL.skip {o : Oper} {d : Nat} (hw : want ops fr o = some false := by kernel_rfl) (hd : o.dst = some d := by kernel_rfl) (hn : Nat.blt d n.n = true := by kernel_rfl) (k : WL P ops n Q rest ((d, undef) :: fr) w) : WL P ops n Q (o :: rest) fr w := by
  intro a ha
  refine wpListIn_step fun K hK => ?_
  rw [ha.want hw, if_neg (by decide), hd]
  exact ⟨fun _ _ => trivial, hK _ _ (k _ (ha.put hn _))⟩
theorem WL.skip0 {o : Oper} (hw : want ops fr o = some false := by kernel_rfl) (hd : o.dst = none := by kernel_rfl) (k : WL P ops n Q rest fr w) : WL P ops n Q (o :: rest) fr w := by
  intro a ha
  refine wpListIn_step fun K hK => ?_
  rw [ha.want hw, if_neg (by decide), hd]
  exact ⟨fun _ _ => trivial, hK _ _ (k _ ha)⟩
/-- An operation that the kernel runs. -/
theorem WL.opW {o : Oper} {w' : World} {d : Nat} (v : Value) (hw : want ops fr o = some true) (hs : okOps fr o = true) (hr : (execOp (evf fr) o).run P w = .ok (.value v) w') (hd : o.dst = some d) (hn : Nat.blt d n.n = true)
    (k : WL P ops n Q rest ((d, v) :: fr) w') : WL P ops n Q (o :: rest) fr w :=
  WL.wanted hw fun a ha K hK => by
    unfold Oper.wp
    rw [ha.exec hs, hr, Oper.upon_value, hd]
    exact hK _ _ (k _ (ha.put hn _))
theorem WL.op {o : Oper} {d : Nat} (v : Value) (hw : want ops fr o = some true := by kernel_rfl) (hs : okOps fr o = true := by kernel_rfl) (hr : (execOp (evf fr) o).run P w = .ok (.value v) w := by kernel_rfl) (hd : o.dst = some d := by kernel_rfl) (hn : Nat.blt d n.n = true := by kernel_rfl)
    (k : WL P ops n Q rest ((d, v) :: fr) w) : WL P ops n Q (o :: rest) fr w := WL.opW v hw hs hr hd hn k
/-- .. whose value is written otherwise. -/
theorem WL.opE {o : Oper} {d : Nat} (v0 : Value) {v : Value} (he : v0 = v := by kernel_rfl) (hw : want ops fr o = some true := by kernel_rfl) (hs : okOps fr o = true := by kernel_rfl) (hr : (execOp (evf fr) o).run P w = .ok (.value v0) w := by kernel_rfl) (hd : o.dst = some d := by kernel_rfl) (hn : Nat.blt d n.n = true := by kernel_rfl)
    (k : WL P ops n Q rest ((d, v) :: fr) w) : WL P ops n Q (o :: rest) fr w := WL.op v hw hs (he ▸ hr) hd hn k
/-- .. told by a run of the operation, at the operands' values. -/
theorem WL.op0 {o : Oper} {w' : World} (hw : want ops fr o = some true := by kernel_rfl) (hs : okOps fr o = true := by kernel_rfl) (hr : (execOp (evf fr) o).run P w = .ok .skip w' := by kernel_rfl) (hd : o.dst = none := by kernel_rfl)
    (k : WL P ops n Q rest fr w') : WL P ops n Q (o :: rest) fr w :=
  WL.wanted hw fun a ha K hK => by
    unfold Oper.wp
    rw [ha.exec hs, hr, Oper.upon_skip, hd]
    exact hK _ _ (k _ ha)
/-- What allocates: a new block. -/
theorem WL.new {o : Oper} {d : Nat} {T : TypeId} (cs : Array Value) (hw : want ops fr o = some true := by kernel_rfl) (hs : okOps fr o = true := by kernel_rfl) (hd : o.dst = some d := by kernel_rfl) (hn : Nat.blt d n.n = true := by kernel_rfl)
    (hr : (execOp (evf fr) o).run P w = .ok (.value (.pointer (some ⟨w.heap.size, 0, none⟩))) (w.alloc (.cells cs T)) := by kernel_rfl)
    (k : ∀ (b : Nat) (w' : World), w.heap.size ≤ b → w'.heap[b]? = some (.cells cs T (0, 0)) → Adds w w' → WL P ops n Q rest ((d, .pointer (some ⟨b, 0, none⟩)) :: fr) w') : WL P ops n Q (o :: rest) fr w :=
  WL.opW _ hw hs hr hd hn (k _ _ (Nat.le_refl _) (heap_alloc_new' w _) ((Keeps.refl _ w).alloc _))

/-- A comparison, told by its own run. -/
theorem WL.bin {B : BinOp} {T T2 : TypeId} {x y : Operand} {d : Nat} {vx vy v : Value} {ty : TypeId} {ps : String} {af : Array Edge} {g : Option (Nat × Bool)} (hb : (binOp B T vx vy).run P w = .ok v w)
    (hg : (eqGuard B T x y vx vy).run P w = .ok () w := by kernel_rfl) (hw : want ops fr ⟨some d, .binOp B T x y T2, ty, ps, af, g⟩ = some true := by kernel_rfl) (hx : ev fr x = some vx := by kernel_rfl) (hy : ev fr y = some vy := by kernel_rfl) (hn : Nat.blt d n.n = true := by kernel_rfl)
    (k : WL P ops n Q rest ((d, v) :: fr) w) : WL P ops n Q (⟨some d, .binOp B T x y T2, ty, ps, af, g⟩ :: rest) fr w :=
  WL.wanted hw fun a ha K hK => by
    unfold Oper.wp
    simp only [execOp, ha.eval hx, ha.eval hy, Sem.run_bind, hg, Sem.run_pure, Result.andThen_ok, hb, Oper.upon_value]
    exact hK _ _ (k _ (ha.put hn _))

/-! memory -/
def scT (P : Program) (T : TypeId) : Bool :=
  match P.underlying T with
  | some (.struct _) => false
  | some (.array _ _) => false
  | some _ => true
  | none => false
def agT (P : Program) (T : TypeId) : Option Nat :=
  match P.underlying T with
  | some (.struct _) => (P.info? T).map (·.size)
  | some (.array _ _) => (P.info? T).map (·.size)
  | _ => none
theorem run_isAgg_sc {T : TypeId} (h : scT P T = true) : (isAgg T).run P w = .ok false w := by
  unfold scT at h
  cases hu : P.underlying T with
  | none => simp [hu] at h
  | some d => cases d <;> simp [hu] at h <;> simp [isAgg, run_underlying hu] <;> (try rfl)
theorem run_isAgg_ag {T : TypeId} {m : Nat} (h : agT P T = some m) : (isAgg T).run P w = .ok true w ∧ (sizeOf T).run P w = .ok m w := by
  unfold agT at h
  cases hu : P.underlying T with
  | none => simp [hu] at h
  | some d =>
    cases d <;> simp only [hu, reduceCtorEq] at h
    all_goals
      obtain ⟨i, hi, hs⟩ := Option.map_eq_some_iff.1 h
      exact ⟨by simp [isAgg, run_underlying hu], by simp [sizeOf, typeInfo, hi, hs]⟩
theorem ld1 {T E : TypeId} {b i : Nat} {cs : Array Value} {fz : Nat × Nat} {v : Value} (hb : w.heap[b]? = some (.cells cs E fz)) (hT : scT P T = true := by kernel_rfl) (hv : cs[i]? = some v := by kernel_rfl) : (loadVar T ⟨b, i, none⟩).run P w = .ok v w := by
  have hc : w.cell? ⟨b, i, none⟩ = some v := cell_at hb i hv
  unfold loadVar
  simp only [Sem.run_bind, run_isAgg_sc hT, Result.andThen_ok]
  simp [go_sem, hc]
theorem run_loadCellsFrom {b i : Nat} {cs : Array Value} {E : TypeId} {fz : Nat × Nat} (hb : w.heap[b]? = some (.cells cs E fz)) : ∀ (m j : Nat) (acc : Array Value), i + j + m ≤ cs.size →
    (loadCellsFrom ⟨b, i, none⟩ j m acc).run P w = .ok (acc ++ ((cs.toList.drop (i + j)).take m).toArray) w
  | 0, j, acc, _ => by simp [loadCellsFrom]
  | m + 1, j, acc, h => by
    have hlt : i + j < cs.size := by omega
    have ha : (⟨b, i, none⟩ : Addr).add j = ⟨b, i + j, none⟩ := by unfold Addr.add; split <;> simp_all
    have hc : w.cell? ⟨b, i + j, none⟩ = some cs[i + j] := cell_at hb (i + j) (by simp [hlt])
    have hd : (cs.toList.drop (i + j)) = cs[i + j] :: cs.toList.drop (i + j + 1) := by
      rw [List.drop_eq_getElem_cons (by simpa using hlt)]; simp
    have ih := run_loadCellsFrom (i := i) hb m (j + 1) (acc.push cs[i + j]) (by omega)
    have h1 : (load ⟨b, i + j, none⟩).run P w = .ok cs[i + j] w := by simp [load, Sem.run, hc]
    simp only [loadCellsFrom, ha, Sem.run_bind, h1, Result.andThen_ok, ih, hd, List.take_succ_cons]
    congr 1
    rw [show i + (j + 1) = i + j + 1 by omega]
    apply Array.ext'
    simp
theorem ldN {T E : TypeId} {b i m : Nat} {cs : Array Value} {fz : Nat × Nat} {l : List Value} (hb : w.heap[b]? = some (.cells cs E fz)) (hT : agT P T = some m := by kernel_rfl) (hk : Nat.ble (i + m) cs.size = true := by kernel_rfl) (hl : (cs.toList.drop i).take m = l := by kernel_rfl) : (loadVar T ⟨b, i, none⟩).run P w = .ok (.agg l.toArray) w := by
  obtain ⟨h1, h2⟩ := run_isAgg_ag (w := w) hT
  have h3 := run_loadCellsFrom (P := P) hb m 0 #[] (i := i) (by have := Nat.le_of_ble_eq_true hk; omega)
  unfold loadVar
  simp only [Sem.run_bind, h1, Result.andThen_ok, if_true, h2, loadCells, h3]
  simp [hl]
theorem WL.load {T : TypeId} {x : Operand} {d : Nat} {p : Addr} {v : Value} {ty : TypeId} {ps : String} {af : Array Edge} {g : Option (Nat × Bool)} (hl : (loadVar T p).run P w = .ok v w)
    (hw : want ops fr ⟨some d, .load T x, ty, ps, af, g⟩ = some true := by kernel_rfl) (he : ev fr x = some (.pointer (some p)) := by kernel_rfl) (hn : Nat.blt d n.n = true := by kernel_rfl) (k : WL P ops n Q rest ((d, v) :: fr) w) : WL P ops n Q (⟨some d, .load T x, ty, ps, af, g⟩ :: rest) fr w :=
  WL.wanted hw fun a ha K hK => by
    unfold Oper.wp
    simp only [execOp, ha.eval he, Instr.loadAt, Instr.sureAddr, Sem.run_bind, Sem.run_pure, Result.andThen_ok, hl, Oper.upon_value]
    exact hK _ _ (k _ (ha.put hn _))

/-- cells that may be stored one by one -/
def oneC : Value → Bool
  | .agg _ => false
  | .tuple _ => false
  | _ => true
def repl (cs : Array Value) (i : Nat) (l : List Value) : Array Value := (cs.toList.take i ++ (l ++ cs.toList.drop (i + l.length))).toArray
theorem Keeps.one {w w' : World} {b : Nat} (os : w'.os = w.os) (tape : w'.tape = w.tape) (out : w'.output = w.output) (size : w.heap.size ≤ w'.heap.size) (h : ∀ k, k < w.heap.size → k ≠ b → w'.heap[k]? = w.heap[k]?) : Keeps (fun k => k = b) w w' := ⟨os, tape, out, size, h⟩
theorem run_store1 {b i : Nat} {cs : Array Value} {E : TypeId} {v : Value} (hb : w.heap[b]? = some (.cells cs E (0, 0))) (hi : i < cs.size) (hv : oneC v = true) : (store ⟨b, i, none⟩ v).run P w = .ok () (w.setCell ⟨b, i, none⟩ v) := by
  have hc : w.cell? ⟨b, i, none⟩ = some cs[i] := cell_at hb i (by simp [hi])
  have hf := free_at hb i
  cases v <;> simp [oneC] at hv <;> simp [store, Sem.run, hc, hf]
theorem run_storeCells {b i : Nat} {E : TypeId} : ∀ (l : List Value) (j : Nat) (w : World) (cs : Array Value), w.heap[b]? = some (.cells cs E (0, 0)) → i + j + l.length ≤ cs.size → l.all oneC = true →
    ∃ w', (storeCells ⟨b, i, none⟩ l j).run P w = .ok () w' ∧ w'.heap[b]? = some (.cells (repl cs (i + j) l) E (0, 0)) ∧ Keeps (fun k => k = b) w w'
  | [], j, w, cs, hb, _, _ => ⟨w, by simp [storeCells], by simpa [repl] using hb, Keeps.refl _ _⟩
  | v :: l, j, w, cs, hb, hl, hv => by
    simp only [List.all_cons, Bool.and_eq_true] at hv
    simp only [List.length_cons] at hl
    have ha : (⟨b, i, none⟩ : Addr).add j = ⟨b, i + j, none⟩ := by unfold Addr.add; split <;> simp_all
    have h1 := run_store1 (P := P) (i := i + j) hb (by omega) hv.1
    have hb' := heap_set_same hb (i + j) v
    obtain ⟨w', hr, hb2, hk⟩ := run_storeCells (i := i) l (j + 1) (w.setCell ⟨b, i + j, none⟩ v) _ hb' (by simp; omega) hv.2
    refine ⟨w', ?_, ?_, ((Keeps.refl (fun k => k = b) w).setCell _ _ (fun _ => rfl)).trans hk⟩
    · simp only [storeCells, ha, Sem.run_bind, h1, Result.andThen_ok, hr]
    · rw [hb2]
      congr 2
      unfold repl
      apply Array.ext'
      have hlt : i + j < cs.toList.length := by simp; omega
      simp only [Array.toList_setIfInBounds, List.length_cons]
      rw [show i + (j + 1) = i + j + 1 by omega, List.take_set, List.drop_set, if_pos (by omega), List.take_succ_eq_append_getElem hlt, List.set_append]
      simp only [List.length_take]
      rw [if_neg (by omega)]
      have hm : min (i + j) cs.size = i + j := Nat.min_eq_left (by simpa using Nat.le_of_lt hlt)
      simp [hm, Nat.add_assoc, Nat.add_comm 1, Nat.add_left_comm]
theorem WL.store {T E : TypeId} {x y : Operand} {b i : Nat} {cs cs' : Array Value} {v : Value} {ty : TypeId} {ps : String} {af : Array Edge} {g : Option (Nat × Bool)}
    (hb : w.heap[b]? = some (.cells cs E (0, 0)))
    (hw : want ops fr ⟨none, .store T x y, ty, ps, af, g⟩ = some true := by kernel_rfl) (he : ev fr x = some (.pointer (some ⟨b, i, none⟩)) := by kernel_rfl) (hv : ev fr y = some v := by kernel_rfl)
    (hT : (P.info? T).map (·.size) = some v.cells.size := by kernel_rfl) (hlen : Nat.ble (i + v.cells.size) cs.size = true := by kernel_rfl) (ho : v.cells.toList.all oneC = true := by kernel_rfl) (hcs : repl cs i v.cells.toList = cs' := by kernel_rfl)
    (k : ∀ w' : World, w'.heap[b]? = some (.cells cs' E (0, 0)) → Keeps (fun k => k = b) w w' → WL P ops n Q rest fr w') : WL P ops n Q (⟨none, .store T x y, ty, ps, af, g⟩ :: rest) fr w :=
  WL.wanted hw fun a ha K hK => by
    obtain ⟨w', hr, hb', hk⟩ := run_storeCells (P := P) (i := i) v.cells.toList 0 w cs hb (by simpa using Nat.le_of_ble_eq_true hlen) ho
    obtain ⟨j, hj, hjs⟩ := Option.map_eq_some_iff.1 hT
    unfold Oper.wp
    have hs : (storeVar T ⟨b, i, none⟩ v).run P w = .ok () w' := by
      unfold storeVar
      simp [sizeOf, typeInfo, hj, hjs, hr]
    simp only [execOp, ha.eval he, ha.eval hv, Instr.storeAt, Instr.sureAddr, Sem.run_bind, Sem.run_pure, Result.andThen_ok, hs, Oper.upon_skip]
    exact hK _ _ (k w' (hcs ▸ (by simpa using hb')) hk _ ha)

/-! calls -/
/-- A function of the program: its call enters it. -/
def CF (P : Program) (f : FuncId) : Prop := ∀ (args : Array Value) (w : World), (callFunc f args).run P w = .ok (.enter f args) w
theorem WL.call {f : FuncId} {xs : Array Operand} {ats : Array TypeId} {args : Array Value} {R : Ending → World → Prop} {d : Nat} {ty : TypeId} {ps : String} {af : Array Edge} {g : Option (Nat × Bool)}
    (hf : CF P f) (hc : Calls P f args w R) (hw : want ops fr ⟨some d, .call ⟨.value (.func f), xs, ats⟩, ty, ps, af, g⟩ = some true) (he : evs fr xs.toList = some args.toList) (hn : Nat.blt d n.n = true)
    (k : ∀ e w', R e w' → ∃ v, e = .returned v ∧ WL P ops n Q rest ((d, v) :: fr) w') : WL P ops n Q (⟨some d, .call ⟨.value (.func f), xs, ats⟩, ty, ps, af, g⟩ :: rest) fr w :=
  WL.wanted hw fun a ha K hK => by
    have hargs : xs.map a.eval = args := by
      apply Array.ext'
      simpa using ha.evs he
    unfold Oper.wp
    simp only [execOp, resolve, Act.eval, Deferred.ofValue, hargs, Sem.run_bind, Sem.run_pure, Result.andThen_ok, invoke, Array.empty_append, Array.append_empty, hf args w, Oper.upon_enter]
    refine hc.mono fun e w' hR => ?_
    obtain ⟨v, rfl, h⟩ := k e w' hR
    exact hK _ _ (h _ (ha.put hn _))
theorem WL.callG {f : FuncId} {o : Oper} {args : Array Value} {R : Ending → World → Prop} {d : Nat} (hc : Calls P f args w R) (hw : want ops fr o = some true := by kernel_rfl) (hs : okOps fr o = true := by kernel_rfl) (hr : (execOp (evf fr) o).run P w = .ok (.enter f args) w := by kernel_rfl) (hd : o.dst = some d := by kernel_rfl) (hn : Nat.blt d n.n = true := by kernel_rfl)
    (k : ∀ e w', R e w' → ∃ v, e = .returned v ∧ WL P ops n Q rest ((d, v) :: fr) w') : WL P ops n Q (o :: rest) fr w :=
  WL.wanted hw fun a ha K hK => by
    unfold Oper.wp
    rw [ha.exec hs, hr, Oper.upon_enter, hd]
    refine hc.mono fun e w' hR => ?_
    obtain ⟨v, rfl, h⟩ := k e w' hR
    exact hK _ _ (h _ (ha.put hn _))
theorem WL.callG0 {f : FuncId} {o : Oper} {args : Array Value} {R : Ending → World → Prop} (hc : Calls P f args w R) (hw : want ops fr o = some true := by kernel_rfl) (hs : okOps fr o = true := by kernel_rfl) (hr : (execOp (evf fr) o).run P w = .ok (.enter f args) w := by kernel_rfl) (hd : o.dst = none := by kernel_rfl)
    (k : ∀ e w', R e w' → ∃ v, e = .returned v ∧ WL P ops n Q rest fr w') : WL P ops n Q (o :: rest) fr w :=
  WL.wanted hw fun a ha K hK => by
    unfold Oper.wp
    rw [ha.exec hs, hr, Oper.upon_enter, hd]
    refine hc.mono fun e w' hR => ?_
    obtain ⟨v, rfl, h⟩ := k e w' hR
    exact hK _ _ (h _ ha)
theorem FrOk.rw {t : Nat} {u v : Value} (he : look fr t = some u) (hu : u = v) {a : Act} (ha : FrOk n fr a) : FrOk n ((t, v) :: fr) a :=
  ⟨ha.defers, ha.size, fun s x hx => by
    simp only [look] at hx
    cases hb : Nat.beq t s with
    | true =>
      rw [hb] at hx
      simp only [cond_true, Option.some.injEq] at hx
      rw [← Nat.eq_of_beq_eq_true hb, ← hx, ← hu]
      exact ha.val t u he
    | false => rw [hb] at hx; exact ha.val s x hx⟩
/-- A slot's value, written otherwise. -/
theorem WL.rw {t : Nat} {u v : Value} (hu : u = v) (he : look fr t = some u := by kernel_rfl) (k : WL P ops n Q rest ((t, v) :: fr) w) : WL P ops n Q rest fr w := fun a ha => k a (ha.rw he hu)
theorem WL.callA {f : FuncId} {xs : Array Operand} {ats : Array TypeId} {args : Array Value} {v : Value} {d : Nat} {ty : TypeId} {ps : String} {af : Array Edge} {g : Option (Nat × Bool)}
    (hf : CF P f) (hc : Calls P f args w (fun e w' => e = .returned v ∧ Adds w w')) (hw : want ops fr ⟨some d, .call ⟨.value (.func f), xs, ats⟩, ty, ps, af, g⟩ = some true) (he : evs fr xs.toList = some args.toList) (hn : Nat.blt d n.n = true)
    (k : ∀ w', Adds w w' → WL P ops n Q rest ((d, v) :: fr) w') : WL P ops n Q (⟨some d, .call ⟨.value (.func f), xs, ats⟩, ty, ps, af, g⟩ :: rest) fr w :=
  WL.call hf hc hw he hn fun e w' h => ⟨v, h.1, k w' h.2⟩
end

/-! code -/
section
variable {P : Program} {n : Md} {Q : Exit → Act → World → Prop} {fr : Fr} {w : World}
theorem WC.region {id : Nat} {l : List Oper} (h : WL P l.toArray n Q l fr w) : WC P n Q (.region id l.toArray false) fr w := fun a ha => wpIn_region_lit (h a ha)
theorem WC.seq {x y : Code} (h : WC P n (Exit.then (y.wpIn (fz n.R) 0 P Q) Q) x fr w) : WC P n Q (.seq x y) fr w := fun a ha => wpIn_seq (h a ha)
theorem WC.skip (h : WX n Q .normal fr w) : WC P n Q .skip fr w := fun a ha => wpIn_skip (h a ha)
theorem WC.label {l : Nat} (h : WX n Q .normal fr w) : WC P n Q (.label l) fr w := fun a ha => wpIn_label (h a ha)
theorem WC.ret (h : WX n Q .ret fr w) : WC P n Q .ret fr w := fun a ha => wpIn_ret (h a ha)
theorem WC.exit {id : Nat} (h : WX n Q (.exit id) fr w) : WC P n Q (.exit id) fr w := fun a ha => wpIn_exit (h a ha)
theorem WC.block {id : Nat} {c : Code} (h : WC P n (Exit.inBlock id Q) c fr w) : WC P n Q (.block id c) fr w := fun a ha => wpIn_block (h a ha)
theorem WC.cond {x : Operand} {c1 c2 : Code} {b : Bool} (he : ev fr x = some (.bool b) := by kernel_rfl) (ht : b = true → WC P n Q c1 fr w) (hf : b = false → WC P n Q c2 fr w := by kernel_rfl) : WC P n Q (.cond x c1 c2) fr w :=
  fun a ha => wpIn_cond_split (ha.eval he) (fun h => ht h a ha) (fun h => hf h a ha)
theorem WC.condT {x : Operand} {c1 c2 : Code} (he : ev fr x = some (.bool true) := by kernel_rfl) (k : WC P n Q c1 fr w) : WC P n Q (.cond x c1 c2) fr w :=
  fun a ha => wpIn_cond_true (ha.eval he) (k a ha)
theorem WC.condF {x : Operand} {c1 c2 : Code} (he : ev fr x = some (.bool false) := by kernel_rfl) (k : WC P n Q c2 fr w) : WC P n Q (.cond x c1 c2) fr w :=
  fun a ha => wpIn_cond_false (ha.eval he) (k a ha)
theorem WC.sub {F : Fr} {c : Code} (hs : Sub F fr) (h : WC P n Q c F w) : WC P n Q c fr w := fun a ha => h a (ha.sub hs)
theorem WC.rw {t : Nat} {u v : Value} {c : Code} (hu : u = v) (he : look fr t = some u := by kernel_rfl) (k : WC P n Q c ((t, v) :: fr) w) : WC P n Q c fr w := fun a ha => k a (ha.rw he hu)
theorem WX.seqN {y : Code} (h : WC P n Q y fr w) : WX n (Exit.then (y.wpIn (fz n.R) 0 P Q) Q) .normal fr w := h
theorem WX.seqR {K : Act → World → Prop} (h : WX n Q .ret fr w) : WX n (Exit.then K Q) .ret fr w := h
theorem WX.seqE {K : Act → World → Prop} {id : Nat} (h : WX n Q (.exit id) fr w) : WX n (Exit.then K Q) (.exit id) fr w := h
theorem WX.blockN {id : Nat} (h : WX n Q .normal fr w) : WX n (Exit.inBlock id Q) .normal fr w := h
theorem WX.blockR {id : Nat} (h : WX n Q .ret fr w) : WX n (Exit.inBlock id Q) .ret fr w := h
theorem WX.blockE {id : Nat} (h : WX n Q .normal fr w) : WX n (Exit.inBlock id Q) (.exit id) fr w := fun a ha => by
  simp only [Exit.inBlock, ↓reduceIte]; exact h a ha
theorem WX.blockO {id i : Nat} (hi : Nat.beq i id = false) (h : WX n Q (.exit i) fr w) : WX n (Exit.inBlock id Q) (.exit i) fr w := fun a ha => by
  simp only [Exit.inBlock, Nat.ne_of_beq_eq_false hi, ↓reduceIte]; exact h a ha
theorem WX.sub {F : Fr} {e : Exit} (hs : Sub F fr) (h : WX n Q e F w) : WX n Q e fr w := fun a ha => h a (ha.sub hs)

/-- A loop: what its head is, by x; what holds there; what goes down. -/
def Round {ι : Type} (n : Md) (F : ι → Fr) (I : ι → World → Prop) (m : ι → Nat) (x : ι) : Act → World → Prop := fun a w => ∃ x', m x' < m x ∧ FrOk n (F x') a ∧ I x' w
theorem WC.loop {ι : Type} {c : Code} (F : ι → Fr) (I : ι → World → Prop) (m : ι → Nat) (x0 : ι) (hs : Sub (F x0) fr) (h0 : I x0 w)
    (round : ∀ x w, I x w → WC P n (Exit.then (Round n F I m x) Q) c (F x) w) : WC P n Q (.loop c) fr w := fun a ha =>
  wpIn_loop_ghost (fun k a w => ∃ x, m x = k ∧ FrOk n (F x) a ∧ I x w) (m x0) ⟨x0, rfl, ha.sub hs, h0⟩ (fun k a w ⟨x, hk, hf, hi⟩ =>
    wpIn_mono (round x w hi a hf) (fun e a' w' q => by
      cases e with
      | normal => obtain ⟨x', h1, h2, h3⟩ := q; exact ⟨m x', by omega, x', rfl, h2, h3⟩
      | _ => exact q))
theorem WX.round {ι : Type} {F : ι → Fr} {I : ι → World → Prop} {m : ι → Nat} {x : ι} (x' : ι) (hm : m x' < m x) (hs : Sub (F x') fr) (hi : I x' w) : WX n (Exit.then (Round n F I m x) Q) .normal fr w :=
  fun a ha => ⟨x', hm, ha.sub hs, hi⟩

/-! results -/
def RV (P : Program) (fr : Fr) (w : World) : List ResultVar → List Value → Prop
  | [], [] => True
  | .tmp t :: rs, v :: vs => look fr t = some v ∧ RV P fr w rs vs
  | .cell a T :: rs, v :: vs => (∃ p, look fr a = some (.pointer (some p)) ∧ (loadVar T p).run P w = .ok v w) ∧ RV P fr w rs vs
  | _, _ => False
theorem RV.run {a : Act} (ha : FrOk n fr a) : ∀ {rs : List ResultVar} {vs : List Value}, RV P fr w rs vs →
    (rs.mapM (fun r => match r with | .tmp t => pure (a.tmps.getD t undef) | .cell x t => do loadVar t (← asAddr (a.tmps.getD x undef)) : ResultVar → Sem Value)).run P w = .ok vs w
  | [], [], _ => by simp
  | .tmp t :: rs, v :: vs, h => by
    have h1 := ha.val t v h.1
    have h2 := RV.run ha h.2
    simp only [List.mapM_cons, Sem.run_bind, Sem.run_pure, Result.andThen_ok, h2]
    simp [Array.getD_eq_getD_getElem?, h1]
  | .cell x T :: rs, v :: vs, h => by
    obtain ⟨⟨p, hp, hl⟩, h3⟩ := h
    have h1 := ha.val x _ hp
    have h2 := RV.run ha h3
    have h4 : (asAddr (a.tmps.getD x undef)).run P w = .ok p w := by simp [Array.getD_eq_getD_getElem?, h1, asAddr]
    simp only [List.mapM_cons, Sem.run_bind, h4, Result.andThen_ok, hl, h2, Sem.run_pure]
def tup : List Value → Value
  | [u] => u
  | vs => .tuple vs.toArray
theorem RV.results {a : Act} {fn : Func} (ha : FrOk n fr a) {rs : List ResultVar} {vs : List Value} (hf : fn.results = rs.toArray) (h : RV P fr w rs vs) (v : Value) (hv : tup vs = v) :
    (results fn a.tmps).run P w = .ok v w := by
  have h1 := RV.run (P := P) ha h
  unfold Go.results
  rw [hf]
  generalize (fun r => match r with | .tmp t => pure (a.tmps.getD t undef) | .cell x t => do loadVar t (← asAddr (a.tmps.getD x undef)) : ResultVar → Sem Value) = f at h1 ⊢
  rw [List.mapM_toArray]
  subst hv
  match vs with
  | [] => simp [h1, tup]
  | [u] => simp [h1, tup]
  | u :: u' :: us => simp [h1, tup]
theorem WX.ret {fn : Func} {R : Ending → World → Prop} {rs : List ResultVar} (vs : List Value) (v : Value) (h : RV P fr w rs vs) (hf : fn.results = rs.toArray := by rfl) (hv : tup vs = v := by rfl) (k : R (.returned v) w) (hD : n.D = [] := by rfl) : WX n (bodyPost P fn R) .ret fr w :=
  fun a ha => ⟨ha.defers.trans hD, v, RV.results ha hf h v hv, k⟩
theorem WX.end {fn : Func} {R : Ending → World → Prop} {rs : List ResultVar} (vs : List Value) (v : Value) (h : RV P fr w rs vs) (hf : fn.results = rs.toArray := by rfl) (hv : tup vs = v := by rfl) (k : R (.returned v) w) (hD : n.D = [] := by rfl) : WX n (bodyPost P fn R) .normal fr w :=
  fun a ha => ⟨ha.defers.trans hD, v, RV.results ha hf h v hv, k⟩

/-! the start -/
def fr0 : Nat → List Value → Fr
  | _, [] => []
  | i, v :: l => (i, v) :: fr0 (i + 1) l
theorem look_fr0 : ∀ (l : List Value) (i t : Nat) (v : Value), look (fr0 i l) t = some v → i ≤ t ∧ l[t - i]? = some v
  | [], _, _, _, h => by simp [fr0, look] at h
  | u :: l, i, t, v, h => by
    simp only [fr0, look] at h
    cases hb : Nat.beq i t with
    | true =>
      have e := Nat.eq_of_beq_eq_true hb
      subst e
      rw [hb] at h
      simpa using h
    | false =>
      rw [hb] at h
      have hne := Nat.ne_of_beq_eq_false hb
      obtain ⟨h1, h2⟩ := look_fr0 l (i + 1) t v h
      refine ⟨by omega, ?_⟩
      rw [show t - i = (t - (i + 1)) + 1 by omega]
      simpa using h2
theorem Calls.start {f : FuncId} {fn : Func} {c : Code} {args : Array Value} {R : Ending → World → Prop} (hf : P.funcs[f]? = some fn) (hb : fn.body = some c) (hn : Nat.ble args.size fn.ntmps = true)
    (h : WC P ⟨fn.ntmps, none, []⟩ (bodyPost P fn R) c (fr0 0 args.toList) w) : Calls P f args w R := by
  refine calls_of_wp hf hb (wpIn_wide.1 (h _ ⟨rfl, by have := Nat.le_of_ble_eq_true hn; simp; omega, fun t v ht => ?_⟩))
  obtain ⟨_, h2⟩ := look_fr0 _ _ _ _ ht
  have h3 : args[t]? = some v := by simpa using h2
  have hlt : t < args.size := (Array.getElem?_eq_some_iff.1 h3).1
  simp [Array.getElem?_append_left hlt, h3]
end

end Go.Proofs.YtdoenmokahbeaaaGreatDoor
