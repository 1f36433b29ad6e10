
/- Regions that draw their order, of quiet operations and a chain of others. -/
import Derived.Test.YtdoenmokahbeaaaGreatDoorSx4
namespace Go.Proofs.YtdoenmokahbeaaaGreatDoor
open Go.RowKit
set_option linter.unusedVariables false
set_option linter.unusedSimpArgs false

section
variable {P : Program} {md : Region.Mode} {ops : Array Oper} {Q : Exit → Act → World → Prop} {C : World → Prop}
/-- nothing but the normal end -/
def Nm (Q : Exit → Act → World → Prop) : Exit → Act → World → Prop := fun e a w => e = .normal ∧ Q .normal a w
/-- An operation's word that comes to nothing but the normal end, in whatever other terms. -/
theorem opTo {F : Fence} {m : Nat} {o : Oper} {a : Act} {w : World} {K K' : Act → World → Prop} {Q Q' : Exit → Act → World → Prop} (h : o.wpIn F m P a w K Q) (hK : ∀ a w, K a w → K' a w) (hQ : ∀ e a w, Q e a w → e = .normal) : o.wpIn F m P a w K' Q' := by
  refine ⟨h.1, ?_⟩
  have h := h.2
  generalize (o.semAt F.round a.eval).run P w = r at *
  cases r with
  | ok x w' =>
    cases x <;> simp only [Oper.uponIn] at h ⊢
    case value u => exact hK _ _ h
    case skip => exact hK _ _ h
    case defer d => exact hK _ _ h
    case enter f args =>
      refine ⟨h.1, CallsIn.mono h.2 (fun e w'' he => ?_)⟩
      cases e with
      | returned u => exact hK _ _ he
      | panicked c => exact absurd (hQ _ _ _ he) (by simp)
      | outgrown => obtain ⟨a0, w0, h0⟩ := he; exact absurd (hQ _ _ _ h0) (by simp)
    case row f args => exact ⟨h.1, RowsIn.mono h.2 (fun u w'' he => hK _ _ he)⟩
    case round l f ts asg b =>
      refine ⟨h.1, RoundIn.mono h.2 (fun e w'' he => ?_)⟩
      cases e with
      | returned u => exact hK _ _ he
      | panicked c => exact absurd (hQ _ _ _ he) (by simp)
      | outgrown => obtain ⟨a0, w0, h0⟩ := he; exact absurd (hQ _ _ _ h0) (by simp)
  | halt x w' =>
    cases x <;> simp only [Oper.uponIn] at h ⊢
    exact absurd (hQ _ _ _ h) (by simp)
theorem nm_normal (e : Exit) (a : Act) (w : World) (h : Nm Q e a w) : e = .normal := h.1
theorem wpOpIn_nm {R0 : Option Nat} {i : Nat} {K : Act → World → Prop} {a : Act} {w : World} (h : wpOpIn (fz R0) 0 P ops (Nm Q) i K a w) : wpOpIn (fz R0) 0 P ops Q i K a w := by
  unfold wpOpIn at *
  split
  · rename_i h0; simpa only [h0] using h
  · rename_i o ho
    simp only [ho] at h
    split
    · rename_i hw
      simp only [hw, if_true] at h
      exact opTo h (fun _ _ h => h) nm_normal
    · rename_i hw; simp only [hw] at h; exact h

def YieldsC (P : Program) (ops : Array Oper) (C : World → Prop) (o : Oper) (v : Value) (a : Act) : Prop :=
  (Region.wanted o (yielded ops a.tmps) = true ∧ ∀ w, C w → (execOp a.eval o).run P w = .ok (.value v) w) ∨ (Region.wanted o (yielded ops a.tmps) = false ∧ v = undef)
theorem YieldsC.wpOp {R0 : Option Nat} {i : Nat} {o : Oper} {v : Value} {a : Act} (nd : Nds ops) (hi : ops[i]? = some o) (hy : YieldsC P ops C o v a) {K : Act → World → Prop} {w : World} (hw : C w) (h : K (a.put o.dst v) w) : wpOpIn (fz R0) 0 P ops Q i K a w := by
  unfold Go.wpOpIn
  simp only [hi]
  rcases hy with ⟨hq, hv⟩ | ⟨hq, rfl⟩
  · simp only [hq, if_true]; exact opLift (nd i o hi) (by unfold Oper.wp; rw [hv w hw]; exact h)
  · simp only [hq, Bool.false_eq_true, if_false]; exact ⟨fun _ _ => trivial, h⟩
theorem YieldsC.same {o : Oper} {v : Value} {a a' : Act} (hy : YieldsC P ops C o v a) (he : execOp a'.eval o = execOp a.eval o) (hw : Region.wanted o (yielded ops a'.tmps) = Region.wanted o (yielded ops a.tmps)) : YieldsC P ops C o v a' := by
  unfold YieldsC at *; rw [he, hw]; exact hy
theorem nd_sel {o : Oper} (h : notSel o.op = true) : ∀ cs b, o.op ≠ .select cs b := fun cs b e => by rw [e] at h; simp [notSel] at h
theorem nd_def {o : Oper} (h : notSel o.op = true) : ∀ c, o.op ≠ .defer c := fun c e => by rw [e] at h; simp [notSel] at h
theorem wpOp_putC {R0 : Option Nat} {j : Nat} {oi oj : Oper} {v : Value} (hj : ops[j]? = some oj) (hap : oi.apart ops oj = true) (ndi : notSel oi.op = true) (ndj : notSel oj.op = true) {K : Act → World → Prop} {a : Act} {w : World}
    (hy : YieldsC P ops C oi v a) (h : wpOpIn (fz R0) 0 P ops (Nm Q) j K (a.put oi.dst v) w) : wpOpIn (fz R0) 0 P ops (Nm Q) j (fun a' w' => YieldsC P ops C oi v a' ∧ K (a'.put oi.dst v) w') a w := by
  obtain ⟨h1, h2, h3⟩ := Oper.apart_spec hap
  have keep : ∀ (a : Act), YieldsC P ops C oi v a → ∀ u, YieldsC P ops C oi v (a.put oj.dst u) := fun a hy u => hy.same (execOp_put oi (nd_sel ndi) a oj.dst u h3) (wanted_put oi a oj.dst u h3)
  unfold wpOpIn at *
  simp only [hj] at *
  rw [wanted_put oj a oi.dst v h1] at h
  split
  · rename_i hw
    simp only [hw, if_true] at h
    refine ⟨fun _ _ => trivial, ?_⟩
    have h := h.2
    rw [Oper.semAt_eq _ _ _ (nd_def ndj)] at h ⊢
    rw [execOp_put oj (nd_sel ndj) a oi.dst v h1] at h
    generalize (execOp a.eval oj).run P w = r at *
    cases r with
    | ok x w' =>
      cases x <;> simp only [Oper.uponIn] at h ⊢
      case value u => exact ⟨keep a hy _, by rw [← Act.put_comm a v u h2]; exact h⟩
      case skip => exact ⟨keep a hy _, by rw [← Act.put_comm a v undef h2]; exact h⟩
      case defer d =>
        have e : ({ a.put oi.dst v with defers := d :: (a.put oi.dst v).defers } : Act) = ({ a with defers := d :: a.defers } : Act).put oi.dst v := by cases oi.dst <;> rfl
        rw [e] at h
        exact ⟨keep { a with defers := d :: a.defers } (hy.same rfl rfl) undef, by rw [← Act.put_comm _ v undef h2]; exact h⟩
      case enter f args =>
        refine ⟨h.1, CallsIn.mono h.2 (fun e w'' he => ?_)⟩
        cases e with
        | returned u => exact ⟨keep a hy _, by rw [← Act.put_comm a v u h2]; exact he⟩
        | panicked c => exact absurd he.1 (by simp)
        | outgrown => obtain ⟨a0, w0, h0, _⟩ := he; cases h0
      case row f args => exact ⟨h.1, RowsIn.mono h.2 (fun u w'' he => ⟨keep a hy _, by rw [← Act.put_comm a v u h2]; exact he⟩)⟩
      case round l f ts asg b =>
        refine ⟨h.1, RoundIn.mono h.2 (fun e w'' he => ?_)⟩
        cases e with
        | returned u => exact ⟨keep a hy _, by rw [← Act.put_comm a v u h2]; exact he⟩
        | panicked c => exact absurd he.1 (by simp)
        | outgrown => obtain ⟨a0, w0, h0, _⟩ := he; cases h0
    | halt x w' =>
      cases x <;> simp only [Oper.uponIn] at h ⊢
      exact absurd h.1 (by simp)
  · rename_i hw
    simp only [hw] at h
    exact ⟨fun _ _ => trivial, keep a hy _, by rw [← Act.put_comm a v undef h2]; exact h.2⟩

theorem getDf_set {l : Array Bool} {i j : Nat} (h : i ≠ j) : (l.setIfInBounds i true).getD j false = l.getD j false := by simp [Array.getD_eq_getD_getElem?, Array.getElem?_setIfInBounds_ne h]
/-- Whatever order, with worlds of the class up to the last operation. -/
def AnyW (R0 : Option Nat) (P : Program) (md : Region.Mode) (ops : Array Oper) (Q : Exit → Act → World → Prop) (C : World → Prop) (last : Nat) : Nat → Array Bool → Act → World → Prop
  | 0, listed, a, w => Region.ready md ops listed = [] ∧ Q .normal a w
  | f + 1, listed, a, w => (Region.ready md ops listed = [] → Q .normal a w) ∧ ∀ i ∈ Region.ready md ops listed, wpOpIn (fz R0) 0 P ops (Nm Q) i (fun a' w' => (listed.getD last false = false → i ≠ last → C w') ∧ AnyW R0 P md ops Q C last f (listed.setIfInBounds i true) a' w') a w
theorem AnyW.any {R0 : Option Nat} {last : Nat} : ∀ (f : Nat) (listed : Array Bool) (a : Act) (w : World), AnyW R0 P md ops Q C last f listed a w → wpAnyIn (fz R0) 0 P md ops Q f listed a w
  | 0, _, _, _, h => h
  | f + 1, _, _, _, h => ⟨h.1, fun i hi => wpOpIn_mono (fun a' w' h' => AnyW.any f _ a' w' h'.2) (wpOpIn_nm (h.2 i hi))⟩
theorem AnyW.first {R0 : Option Nat} {last i : Nat} {oi : Oper} {v : Value} (hi : ops[i]? = some oi) (nd : Nds ops) (hl : Region.waitsFor md ops last i = true) (hil : i ≠ last) :
    ∀ (f : Nat) (listed : Array Bool) (a : Act) (w : World), C w → listed.getD last false = false →
      (∀ j oj, ops[j]? = some oj → j ≠ i → listed.getD j true = false → (∀ e ∈ oj.after, Region.binds md e = true → e.on ≠ i) → oi.apart ops oj = true) →
      i ∈ Region.ready md ops listed → YieldsC P ops C oi v a → AnyW R0 P md ops Q C last f (listed.setIfInBounds i true) (a.put oi.dst v) w → AnyW R0 P md ops Q C last (f + 1) listed a w := by
  intro f
  induction f with
  | zero =>
    intro listed a w hC hu _ hr hy H
    refine ⟨fun h => (by rw [h] at hr; cases hr), fun j hj => ?_⟩
    by_cases hji : j = i
    · subst hji; exact hy.wpOp nd hi hC ⟨fun _ _ => hC, H⟩
    · have := ready_mono hj hji
      rw [H.1] at this; cases this
  | succ f ih =>
    intro listed a w hC hu hfree hr hy H
    have hun := (mem_ready.1 hr).1
    refine ⟨fun h => (by rw [h] at hr; cases hr), fun j hj => ?_⟩
    by_cases hji : j = i
    · subst hji; exact hy.wpOp nd hi hC ⟨fun _ _ => hC, H⟩
    · obtain ⟨hjun, oj, hoj, hall⟩ := mem_ready.1 hj
      have hnot : ∀ e ∈ oj.after, Region.binds md e = true → e.on ≠ i := fun e he hb heq => by
        have h1 := hall e he hb
        rw [heq, getD_both hun] at h1; cases h1
      have hjl : j ≠ last := fun h => by
        subst h
        obtain ⟨o', ho', e, he, hb, hon⟩ := Region.waitsFor_spec hl
        rw [hoj] at ho'; cases ho'
        exact hnot e he hb hon
      refine wpOpIn_mono (fun a' w' h3 => ⟨fun _ hj => h3.2.1 (by rw [getDf_set hil]; exact hu) hj, ?_⟩) (wpOp_putC hoj (hfree j oj hoj hji hjun hnot) (nd i oi hi) (nd j oj hoj) hy (H.2 j (ready_mono hj hji)))
      refine ih _ a' w' (h3.2.1 (by rw [getDf_set hil]; exact hu) hjl) (by rw [getDf_set hjl]; exact hu) (fun k ok hk hki hun' hno => hfree k ok hk hki ?_ hno) (ready_mono hr (Ne.symm hji)) h3.1 ?_
      · by_cases hjk : j = k
        · subst hjk; exact hjun
        · rw [getD_set_ne true hjk] at hun'; exact hun'
      · rw [Array.setIfInBounds_comm _ _ hji]
        exact h3.2.2
end

/-! by frames -/
section
variable {P : Program} {ops : Array Oper} {n : Md} {Q : Exit → Act → World → Prop} {C : World → Prop} {last f : Nat} {listed : Array Bool} {fr : Fr} {w : World}
def WA (P : Program) (ops : Array Oper) (n : Md) (Q : Exit → Act → World → Prop) (C : World → Prop) (last f : Nat) (listed : Array Bool) (fr : Fr) (w : World) : Prop := ∀ a, FrOk n fr a → AnyW n.R P .any ops Q C last f listed a w
def Nxt (R0 : Option Nat) (P : Program) (ops : Array Oper) (Q : Exit → Act → World → Prop) (C : World → Prop) (last f : Nat) (listed : Array Bool) (i : Nat) : Exit → Act → World → Prop := fun e a w => e = .normal ∧ (listed.getD last false = false → i ≠ last → C w) ∧ AnyW R0 P .any ops Q C last f (listed.setIfInBounds i true) a w
def ndsB (ops : Array Oper) : Bool := ops.toList.all fun o => notSel o.op
theorem ndsB_spec (h : ndsB ops = true) : Nds ops := fun j o hj => List.all_eq_true.1 h o (by
  have := List.mem_of_getElem? (l := ops.toList) (i := j) (a := o) (by simpa using hj)
  exact this)
/-- Everything that is asked of an operation that is taken first. -/
def freeB (ops : Array Oper) (listed : Array Bool) (last i : Nat) : Bool := (Region.ready .any ops listed).contains i && Region.free .any ops listed i && Region.waitsFor .any ops last i && !(i == last) && !(listed.getD last false)
theorem WA.quiet (i : Nat) {oi : Oper} {d : Nat} (v : Value) (hC : C w) (hr : ∀ w, C w → (execOp (evf fr) oi).run P w = .ok (.value v) w := by intro _ _; kernel_rfl)
    (hs : ndsB ops = true := by kernel_rfl) (hi : ops[i]? = some oi := by kernel_rfl) (hf : freeB ops listed last i = true := by kernel_rfl) (hw : want ops fr oi = some true := by kernel_rfl) (ho : okOps fr oi = true := by kernel_rfl) (hd : oi.dst = some d := by kernel_rfl) (hn : Nat.blt d n.n = true := by kernel_rfl)
    (k : WA P ops n Q C last f (listed.setIfInBounds i true) ((d, v) :: fr) w) : WA P ops n Q C last (f + 1) listed fr w := fun a ha => by
  simp only [freeB, Bool.and_eq_true, Bool.not_eq_true', beq_eq_false_iff_ne] at hf
  obtain ⟨⟨⟨⟨h1, h2⟩, h3⟩, h4⟩, h5⟩ := hf
  refine AnyW.first (v := v) hi (ndsB_spec hs) h3 h4 f listed a w hC h5 (Region.free_spec hi h2) (by simpa using h1) (.inl ⟨ha.want hw, fun w' hw' => ?_⟩) ?_
  · rw [ha.exec ho]; exact hr w' hw'
  · rw [hd]; exact k _ (ha.put hn v)
theorem WA.quietS (i : Nat) {oi : Oper} {d : Nat} (hC : C w)
    (hs : ndsB ops = true := by kernel_rfl) (hi : ops[i]? = some oi := by kernel_rfl) (hf : freeB ops listed last i = true := by kernel_rfl) (hw : want ops fr oi = some false := by kernel_rfl) (hd : oi.dst = some d := by kernel_rfl) (hn : Nat.blt d n.n = true := by kernel_rfl)
    (k : WA P ops n Q C last f (listed.setIfInBounds i true) ((d, undef) :: fr) w) : WA P ops n Q C last (f + 1) listed fr w := fun a ha => by
  simp only [freeB, Bool.and_eq_true, Bool.not_eq_true', beq_eq_false_iff_ne] at hf
  obtain ⟨⟨⟨⟨h1, h2⟩, h3⟩, h4⟩, h5⟩ := hf
  refine AnyW.first hi (ndsB_spec hs) h3 h4 f listed a w hC h5 (Region.free_spec hi h2) (by simpa using h1) (.inr ⟨ha.want hw, rfl⟩) ?_
  rw [hd]; exact k _ (ha.put hn _)
/-- told by the run itself, at the frame's values -/
theorem WA.quietR (i : Nat) {oi : Oper} {d : Nat} (v : Value) (hC : C w) (hr : ∀ a, FrOk n fr a → ∀ w, C w → (execOp a.eval oi).run P w = .ok (.value v) w)
    (hs : ndsB ops = true := by kernel_rfl) (hi : ops[i]? = some oi := by kernel_rfl) (hf : freeB ops listed last i = true := by kernel_rfl) (hw : want ops fr oi = some true := by kernel_rfl) (hd : oi.dst = some d := by kernel_rfl) (hn : Nat.blt d n.n = true := by kernel_rfl)
    (k : WA P ops n Q C last f (listed.setIfInBounds i true) ((d, v) :: fr) w) : WA P ops n Q C last (f + 1) listed fr w := fun a ha => by
  simp only [freeB, Bool.and_eq_true, Bool.not_eq_true', beq_eq_false_iff_ne] at hf
  obtain ⟨⟨⟨⟨h1, h2⟩, h3⟩, h4⟩, h5⟩ := hf
  refine AnyW.first hi (ndsB_spec hs) h3 h4 f listed a w hC h5 (Region.free_spec hi h2) (by simpa using h1) (.inl ⟨ha.want hw, fun w' hw' => hr a ha w' hw'⟩) ?_
  rw [hd]; exact k _ (ha.put hn v)
theorem WX.rw {e : Exit} {t : Nat} {u v : Value} (hu : u = v) (he : look fr t = some u := by kernel_rfl) (k : WX n Q e ((t, v) :: fr) w) : WX n Q e fr w := fun a ha => k a (ha.rw he hu)
theorem WA.rw {t : Nat} {u v : Value} (hu : u = v) (he : look fr t = some u := by kernel_rfl) (k : WA P ops n Q C last f listed ((t, v) :: fr) w) : WA P ops n Q C last f listed fr w := fun a ha => k a (ha.rw he hu)
theorem exec_load {T d : Nat} {x : Operand} {p : Addr} {v : Value} {ty : TypeId} {ps : String} {af : Array Edge} {g : Option (Nat × Bool)} (hl : ∀ w, C w → (loadVar T p).run P w = .ok v w) (he : ev fr x = some (.pointer (some p)) := by kernel_rfl) :
    ∀ a, FrOk n fr a → ∀ w, C w → (execOp a.eval ⟨some d, .load T x, ty, ps, af, g⟩).run P w = .ok (.value v) w := fun a ha w hw => by
  simp only [execOp, ha.eval he, Instr.loadAt, Instr.sureAddr, Sem.run_bind, Sem.run_pure, Result.andThen_ok, hl w hw]
theorem exec_bin {B : BinOp} {T T2 d : Nat} {x y : Operand} {vx vy v : Value} {ty : TypeId} {ps : String} {af : Array Edge} {g : Option (Nat × Bool)} (hb : ∀ w, (binOp B T vx vy).run P w = .ok v w) (hg : ∀ w, (eqGuard B T x y vx vy).run P w = .ok () w := by intro _; kernel_rfl) (hx : ev fr x = some vx := by kernel_rfl) (hy : ev fr y = some vy := by kernel_rfl) :
    ∀ a, FrOk n fr a → ∀ w, C w → (execOp a.eval ⟨some d, .binOp B T x y T2, ty, ps, af, g⟩).run P w = .ok (.value v) w := fun a ha w hw => by
  simp only [execOp, ha.eval hx, ha.eval hy, Sem.run_bind, hg w, Sem.run_pure, Result.andThen_ok, hb w]
theorem exec_idx {T E : TypeId} {m b o len cap d : Nat} {kk : IntKind} {i : Int} {x y : Operand} {ty : TypeId} {ps : String} {af : Array Edge} {g : Option (Nat × Bool)} (h0 : 0 ≤ i) (h1 : i < len) (hT : P.underlying T = some (.slice E) := by kernel_rfl) (hE : (P.info? E).map (·.size) = some m := by kernel_rfl) (hx : ev fr x = some (.slice (some ⟨b, o, none⟩) len cap) := by kernel_rfl) (hy : ev fr y = some (.int kk i) := by kernel_rfl) :
    ∀ a, FrOk n fr a → ∀ w, C w → (execOp a.eval ⟨some d, .indexAddr T x y, ty, ps, af, g⟩).run P w = .ok (.value (.pointer (some ⟨b, o + i.toNat * m, none⟩))) w := fun a ha w hw => by
  simp only [execOp, ha.eval hx, ha.eval hy, Sem.run_bind, run_idx hT hE h0 h1, Result.andThen_ok, Sem.run_pure]
theorem exec_cut {T d : Nat} {x : Operand} {lo hi mx : Option Operand} {lo' hi' mx' : Option Value} {vx v : Value} {ty : TypeId} {ps : String} {af : Array Edge} {g : Option (Nat × Bool)} (hr : ∀ w, (Instr.sliceAt T vx lo' hi' mx').run P w = .ok v w) (hx : ev fr x = some vx := by kernel_rfl) (hlo : oev fr lo = some lo' := by kernel_rfl) (hhi : oev fr hi = some hi' := by kernel_rfl) (hmx : oev fr mx = some mx' := by kernel_rfl) :
    ∀ a, FrOk n fr a → ∀ w, C w → (execOp a.eval ⟨some d, .slice T x lo hi mx, ty, ps, af, g⟩).run P w = .ok (.value v) w := fun a ha w hw => by
  simp only [execOp, ha.eval hx, ha.oeval hlo, ha.oeval hhi, ha.oeval hmx, Sem.run_bind, hr w, Sem.run_pure, Result.andThen_ok]
/-- the one operation that can come now -/
theorem WA.step (i : Nat) {o : Oper} (hr : Region.ready .any ops listed = [i] := by kernel_rfl) (hi : ops[i]? = some o := by kernel_rfl)
    (k : WL P ops n (Nxt n.R P ops Q C last f listed i) [o] fr w) : WA P ops n Q C last (f + 1) listed fr w := fun a ha => by
  have h := k a ha
  refine ⟨fun h0 => (by rw [hr] at h0; cases h0), fun j hj => ?_⟩
  rw [hr] at hj
  have hji : j = i := by simpa using hj
  subst hji
  unfold wpOpIn
  simp only [hi]
  simp only [wpListIn] at h
  split
  · rename_i hw
    rw [if_pos hw] at h
    exact opTo h (fun _ _ h => h.2) (fun _ _ _ h => h.1)
  · rename_i hw
    rw [if_neg hw] at h
    exact ⟨fun _ _ => trivial, h.2.2⟩
theorem WX.nxt {i : Nat} (hC : C w) (k : WA P ops n Q C last f (listed.setIfInBounds i true) fr w) : WX n (Nxt n.R P ops Q C last f listed i) .normal fr w := fun a ha => ⟨rfl, fun _ _ => hC, k a ha⟩
theorem WX.nxtL (k : WA P ops n Q C last f (listed.setIfInBounds last true) fr w) : WX n (Nxt n.R P ops Q C last f listed last) .normal fr w := fun a ha => ⟨rfl, fun _ h => absurd rfl h, k a ha⟩
theorem WX.nxtB {i : Nat} (hl : listed.getD last false = true := by kernel_rfl) (k : WA P ops n Q C last f (listed.setIfInBounds i true) fr w) : WX n (Nxt n.R P ops Q C last f listed i) .normal fr w := fun a ha => ⟨rfl, fun h => (by rw [hl] at h; cases h), k a ha⟩
theorem WA.done (hr : Region.ready .any ops listed = [] := by kernel_rfl) (k : WX n Q .normal fr w) : WA P ops n Q C last 0 listed fr w := fun a ha => ⟨hr, k a ha⟩
theorem WC.mixed {id : Nat} {l : List Oper} (S : Nat → Prop) (last : Nat) (hm : P.follows .mixedOrders = true := by kernel_rfl) (k : ∀ w1, Adds w w1 → WA P l.toArray n Q (Keeps S w1) last l.length (Array.replicate l.length false) fr w1) : WC P n Q (.region id l.toArray true) fr w := fun a ha => by
  refine wpIn_region_any hm ?_
  have h := AnyW.any _ _ _ _ (k { w with drawn := w.drawn + 1 } ((Keeps.refl _ w).drew) a ha)
  simpa using h
end

end Go.Proofs.YtdoenmokahbeaaaGreatDoor
