
/- Regions that draw their order: quiet operations in a class of worlds, and a tail behind them. -/
import Derived.Test.YtdoenmokahbeaaaGreatDoorSx
namespace Go.Proofs.YtdoenmokahbeaaaGreatDoor
open Go.RowKit
set_option linter.unusedVariables false
set_option linter.unusedSimpArgs false

section
variable {P : Program} {ops : Array Oper} {n : Md} {Q : Exit → Act → World → Prop} {rest : List Oper} {fr : Fr} {w : World} {C : World → Prop} {Z : Act → Prop}
def WQ (P : Program) (ops : Array Oper) (n : Md) (C : World → Prop) (Z : Act → Prop) (rest : List Oper) (fr : Fr) : Prop := ∀ a, FrOk n fr a → wpQuiet P ops C Z rest a
/-- What the walk of the quiet operations comes to. -/
def ZX (n : Md) (C : World → Prop) (Q : Exit → Act → World → Prop) : Act → Prop := fun a => ∀ w, C w → Q .normal a w
def ZL (P : Program) (ops : Array Oper) (R : Option Nat) (C : World → Prop) (Q : Exit → Act → World → Prop) (rest : List Oper) : Act → Prop := fun a => ∀ w, C w → wpListIn (fz R) 0 P ops Q rest a w

theorem WQ.nil (h : ∀ a, FrOk n fr a → Z a) : WQ P ops n C Z [] fr := fun a ha => wpQuiet_nil (h a ha)
theorem WQ.nilX (h : ∀ w, C w → WX n Q .normal fr w) : WQ P ops n C (ZX n C Q) [] fr := WQ.nil fun a ha w hw => h w hw a ha
theorem WQ.nilL {tl : List Oper} (h : ∀ w, C w → WL P ops n Q tl fr w) : WQ P ops n C (ZL P ops n.R C Q tl) [] fr := WQ.nil fun a ha w hw => h w hw a ha
theorem WQ.wanted {o : Oper} (hw : want ops fr o = some true) (h : ∀ a, FrOk n fr a → ∀ K : Act → Prop, (∀ a, wpQuiet P ops C Z rest a → K a) → o.quiet P a C K) : WQ P ops n C Z (o :: rest) fr := by
  intro a ha
  refine wpQuiet_step fun K hK => ?_
  rw [ha.want hw, if_pos rfl]
  exact h a ha K hK
theorem WQ.skip {o : Oper} {d : Nat} (hw : want ops fr o = some false := by kernel_rfl) (hd : o.dst = some d := by kernel_rfl) (hn : Nat.blt d n.n = true := by kernel_rfl) (k : WQ P ops n C Z rest ((d, undef) :: fr)) : WQ P ops n C Z (o :: rest) fr := by
  intro a ha
  refine wpQuiet_step fun K hK => ?_
  rw [ha.want hw, if_neg (by decide), hd]
  exact hK _ (k _ (ha.put hn _))
theorem WQ.op {o : Oper} {d : Nat} (v : Value) (hw : want ops fr o = some true := by kernel_rfl) (hs : okOps fr o = true := by kernel_rfl) (hr : ∀ w, C w → (execOp (evf fr) o).run P w = .ok (.value v) w := by intro _ _; kernel_rfl) (hd : o.dst = some d := by kernel_rfl) (hn : Nat.blt d n.n = true := by kernel_rfl)
    (k : WQ P ops n C Z rest ((d, v) :: fr)) : WQ P ops n C Z (o :: rest) fr :=
  WQ.wanted hw fun a ha K hK => ⟨v, fun w hC => by
    unfold Oper.quietAt
    rw [ha.exec hs, hr w hC]
    exact ⟨rfl, rfl⟩, by rw [hd]; exact hK _ (k _ (ha.put hn _))⟩
theorem WQ.opE {o : Oper} {d : Nat} (v0 : Value) {v : Value} (he : v0 = v := by kernel_rfl) (hw : want ops fr o = some true := by kernel_rfl) (hs : okOps fr o = true := by kernel_rfl) (hr : ∀ w, C w → (execOp (evf fr) o).run P w = .ok (.value v0) w := by intro _ _; kernel_rfl) (hd : o.dst = some d := by kernel_rfl) (hn : Nat.blt d n.n = true := by kernel_rfl)
    (k : WQ P ops n C Z rest ((d, v) :: fr)) : WQ P ops n C Z (o :: rest) fr := WQ.op v hw hs (he ▸ hr) hd hn k
theorem WQ.load {T : TypeId} {x : Operand} {d : Nat} {p : Addr} {v : Value} {ty : TypeId} {ps : String} {af : Array Edge} {g : Option (Nat × Bool)} (hl : ∀ w, C w → (loadVar T p).run P w = .ok v w)
    (hw : want ops fr ⟨some d, .load T x, ty, ps, af, g⟩ = some true := by kernel_rfl) (he : ev fr x = some (.pointer (some p)) := by kernel_rfl) (hn : Nat.blt d n.n = true := by kernel_rfl) (k : WQ P ops n C Z rest ((d, v) :: fr)) : WQ P ops n C Z (⟨some d, .load T x, ty, ps, af, g⟩ :: rest) fr :=
  WQ.wanted hw fun a ha K hK => ⟨v, fun w hC => by
    unfold Oper.quietAt
    simp only [execOp, ha.eval he, Instr.loadAt, Instr.sureAddr, Sem.run_bind, Sem.run_pure, Result.andThen_ok, hl w hC, Oper.quietUpon, and_self], hK _ (k _ (ha.put hn _))⟩
theorem WQ.bin {B : BinOp} {T T2 : TypeId} {x y : Operand} {d : Nat} {vx vy v : Value} {ty : TypeId} {ps : String} {af : Array Edge} {g : Option (Nat × Bool)} (hb : ∀ w, (binOp B T vx vy).run P w = .ok v w)
    (hg : ∀ w, (eqGuard B T x y vx vy).run P w = .ok () w := by intro _; kernel_rfl) (hw : want ops fr ⟨some d, .binOp B T x y T2, ty, ps, af, g⟩ = some true := by kernel_rfl) (hx : ev fr x = some vx := by kernel_rfl) (hy : ev fr y = some vy := by kernel_rfl) (hn : Nat.blt d n.n = true := by kernel_rfl)
    (k : WQ P ops n C Z rest ((d, v) :: fr)) : WQ P ops n C Z (⟨some d, .binOp B T x y T2, ty, ps, af, g⟩ :: rest) fr :=
  WQ.wanted hw fun a ha K hK => ⟨v, fun w hC => by
    unfold Oper.quietAt
    simp only [execOp, ha.eval hx, ha.eval hy, Sem.run_bind, hg w, Sem.run_pure, Result.andThen_ok, hb w, Oper.quietUpon, and_self], hK _ (k _ (ha.put hn _))⟩
theorem WQ.call {f : FuncId} {xs : Array Operand} {ats : Array TypeId} {args : Array Value} {v : Value} {d : Nat} {ty : TypeId} {ps : String} {af : Array Edge} {g : Option (Nat × Bool)}
    (hf : CF P f) (hc : ∀ w, C w → Calls P f args w (fun e w' => e = .returned v ∧ C w')) (hw : want ops fr ⟨some d, .call ⟨.value (.func f), xs, ats⟩, ty, ps, af, g⟩ = some true) (he : evs fr xs.toList = some args.toList) (hn : Nat.blt d n.n = true)
    (k : WQ P ops n C Z rest ((d, v) :: fr)) : WQ P ops n C Z (⟨some d, .call ⟨.value (.func f), xs, ats⟩, ty, ps, af, g⟩ :: rest) fr :=
  WQ.wanted hw fun a ha K hK => ⟨v, fun w hC => by
    have hargs : xs.map a.eval = args := by
      apply Array.ext'
      simpa using ha.evs he
    unfold Oper.quietAt
    simp only [execOp, resolve, Act.eval, Deferred.ofValue, hargs, Sem.run_bind, Sem.run_pure, Result.andThen_ok, invoke, Array.empty_append, Array.append_empty, hf args w, Oper.quietUpon, true_and]
    exact hc w hC, hK _ (k _ (ha.put hn _))⟩
theorem WQ.rw {t : Nat} {u v : Value} (hu : u = v) (he : look fr t = some u := by kernel_rfl) (k : WQ P ops n C Z rest ((t, v) :: fr)) : WQ P ops n C Z rest fr := fun a ha => k a (ha.rw he hu)
theorem WQ.callG {f : FuncId} {o : Oper} {args : Array Value} {v : Value} {d : Nat} {R : World → Ending → World → Prop} (hc : ∀ w, C w → Calls P f args w (R w)) (hR : ∀ w e w', C w → R w e w' → e = .returned v ∧ C w') (hw : want ops fr o = some true := by kernel_rfl) (hs : okOps fr o = true := by kernel_rfl) (hr : ∀ w, C w → (execOp (evf fr) o).run P w = .ok (.enter f args) w := by intro _ _; kernel_rfl) (hd : o.dst = some d := by kernel_rfl) (hn : Nat.blt d n.n = true := by kernel_rfl)
    (k : WQ P ops n C Z rest ((d, v) :: fr)) : WQ P ops n C Z (o :: rest) fr :=
  WQ.wanted hw fun a ha K hK => ⟨v, fun w hC => by
    unfold Oper.quietAt
    rw [ha.exec hs, hr w hC]
    exact ⟨rfl, (hc w hC).mono fun e w' h => hR w e w' hC h⟩, by rw [hd]; exact hK _ (k _ (ha.put hn _))⟩
theorem addsR {w0 : World} {v : Value} : ∀ (w : World) (e : Ending) (w' : World), Adds w0 w → (e = .returned v ∧ Adds w w') → e = .returned v ∧ Adds w0 w' := fun w e w' h k => ⟨k.1, h.trans k.2⟩
theorem sameR {w0 : World} {v : Value} : ∀ (w : World) (e : Ending) (w' : World), Adds w0 w → (e = .returned v ∧ w' = w) → e = .returned v ∧ Adds w0 w' := fun w e w' h k => ⟨k.1, k.2 ▸ h⟩
theorem sameR' {w0 : World} {v : Value} : ∀ (w : World) (e : Ending) (w' : World), Adds w0 w → (e = .returned v ∧ w = w') → e = .returned v ∧ Adds w0 w' := fun w e w' h k => ⟨k.1, k.2 ▸ h⟩
theorem WQ.callA {w0 : World} {f : FuncId} {xs : Array Operand} {ats : Array TypeId} {args : Array Value} {v : Value} {d : Nat} {ty : TypeId} {ps : String} {af : Array Edge} {g : Option (Nat × Bool)}
    (hf : CF P f) (hc : ∀ w, Adds w0 w → Calls P f args w (fun e w' => e = .returned v ∧ Adds w w')) (hw : want ops fr ⟨some d, .call ⟨.value (.func f), xs, ats⟩, ty, ps, af, g⟩ = some true) (he : evs fr xs.toList = some args.toList) (hn : Nat.blt d n.n = true)
    (k : WQ P ops n (Adds w0) Z rest ((d, v) :: fr)) : WQ P ops n (Adds w0) Z (⟨some d, .call ⟨.value (.func f), xs, ats⟩, ty, ps, af, g⟩ :: rest) fr :=
  WQ.call hf (fun w hw => (hc w hw).mono fun e w' h => ⟨h.1, hw.trans h.2⟩) hw he hn k

/-- no select, no defer -/
def Nds (ops : Array Oper) : Prop := ∀ (j : Nat) (o : Oper), ops[j]? = some o → notSel o.op = true
theorem nds_arr {l : List Oper} (h : l.all (fun o => notSel o.op) = true) : Nds l.toArray := fun j o hj => List.all_eq_true.1 h o (List.mem_of_getElem? (by simpa using hj))
theorem wpOpIn_of_q {R0 : Option Nat} {i : Nat} {a : Act} {K : Act → Prop} {K' : Act → World → Prop} {Q' : Exit → Act → World → Prop} {w : World} (nd : Nds ops) (hC : C w) (h : ∀ a w', C w' → K a → K' a w') (hh : qOp P ops C i K a) : wpOpIn (fz R0) 0 P ops Q' i K' a w := by
  unfold qOp at hh
  unfold wpOpIn
  split
  · rename_i ho; simp only [ho] at hh; exact h _ _ hC hh
  · rename_i o ho
    simp only [ho] at hh
    split
    · rename_i hw; simp only [hw, if_true] at hh; exact opLift (nd i o ho) (Oper.wp_of_quiet hC h hh)
    · rename_i hw; simp only [hw] at hh; exact ⟨fun _ _ => trivial, h _ _ hC hh⟩
theorem wpAnyIn_of_q {R0 : Option Nat} {md : Region.Mode} {Q : Act → Prop} {Q' : Exit → Act → World → Prop} (nd : Nds ops) (hQ : ∀ a w, C w → Q a → Q' .normal a w) : ∀ (fuel : Nat) (listed : Array Bool) (a : Act) (w : World), C w →
    wpAnyQ P md ops C Q fuel listed a → wpAnyIn (fz R0) 0 P md ops Q' fuel listed a w
  | 0, _, _, _, hw, h => ⟨h.1, hQ _ _ hw h.2⟩
  | fuel + 1, _, _, _, hw, h => ⟨fun h0 => hQ _ _ hw (h.1 h0), fun i hi => wpOpIn_of_q nd hw (fun a' w' hw' => wpAnyIn_of_q nd hQ fuel _ a' w' hw') (h.2 i hi)⟩
theorem WC.quiet {id : Nat} {l : List Oper} (hm : P.follows .mixedOrders = true := by kernel_rfl) (hB : Region.lexB .any l.toArray = true := by kernel_rfl) (hd : l.all (fun o => notSel o.op) = true := by kernel_rfl) (k : WQ P l.toArray n (Adds w) (ZX n (Adds w) Q) l fr) : WC P n Q (.region id l.toArray true) fr w := fun a ha => by
  simp only [Region.lexB, Bool.and_eq_true] at hB
  refine wpIn_region_any hm (wpAnyIn_of_q (R0 := n.R) (nds_arr hd) (C := Adds w) (Q := ZX n (Adds w) Q) (fun _ w' hw' h => h w' hw') _ _ _ _ ((Keeps.refl _ w).drew) ?_)
  have := wpAnyQ_lex (C := Adds w) (md := .any) hB.1 l 0 (Array.replicate l.toArray.size false) a (by simp) (by simpa using hB.2) (k a ha)
  simpa using this
end

/-! A tail that waits for all quiet operations. -/
section
variable {P : Program} {ops : Array Oper} {md : Region.Mode} {C : World → Prop}
def AnyC (P : Program) (md : Region.Mode) (ops : Array Oper) (C : World → Prop) (m : Nat) (L : Array Bool → Act → Prop) : Nat → Array Bool → Act → Prop
  | 0, listed, a => L listed a
  | f + 1, listed, a => Region.ready md ops listed ≠ [] ∧ ∀ i ∈ Region.ready md ops listed, i < m ∧ qOp P ops C i (AnyC P md ops C m L f (listed.setIfInBounds i true)) a
theorem wpAnyIn_of_seq {R0 : Option Nat} {Q' : Exit → Act → World → Prop} : ∀ (l : List Oper) (k : Nat) (listed : Array Bool) (a : Act) (w : World), (∀ j, l[j]? = ops[k + j]?) →
    Region.seqB md ops l.length k listed = true → wpListIn (fz R0) 0 P ops Q' l a w → wpAnyIn (fz R0) 0 P md ops Q' l.length listed a w
  | [], _, _, _, _, _, hB, h => ⟨by simpa [Region.seqB] using hB, h⟩
  | o :: l, k, listed, a, w, hl, hB, h => by
    have h0 : ops[k]? = some o := by simpa using (hl 0).symm
    simp only [List.length_cons, Region.seqB, Bool.and_eq_true, decide_eq_true_eq] at hB
    refine ⟨fun h1 => (by rw [hB.1] at h1; cases h1), fun i hi => ?_⟩
    rw [hB.1] at hi
    have hik : i = k := by simpa using hi
    subst hik
    have hw : wpOpIn (fz R0) 0 P ops Q' i (wpListIn (fz R0) 0 P ops Q' l) a w := by unfold wpOpIn; simp only [h0]; exact h
    exact wpOpIn_mono (fun a' w' h' => wpAnyIn_of_seq l (i + 1) _ a' w' (fun j => by have := hl (j + 1); simpa [Nat.add_assoc, Nat.add_comm 1 j] using this) hB.2 h') hw
theorem AnyC.any {R0 : Option Nat} {m g : Nat} {L : Array Bool → Act → Prop} {Q : Exit → Act → World → Prop} (nd : Nds ops) (hL : ∀ listed a w, C w → L listed a → wpAnyIn (fz R0) 0 P md ops Q g listed a w) :
    ∀ (f : Nat) (listed : Array Bool) (a : Act) (w : World), C w → AnyC P md ops C m L f listed a → wpAnyIn (fz R0) 0 P md ops Q (f + g) listed a w
  | 0, listed, a, w, hw, h => by rw [Nat.zero_add]; exact hL _ _ _ hw h
  | f + 1, listed, a, w, hw, h => by
    rw [Nat.succ_add]
    exact ⟨fun h0 => absurd h0 h.1, fun i hi => wpOpIn_of_q nd hw (fun a' w' hw' h' => AnyC.any nd hL f _ a' w' hw' h') (h.2 i hi).2⟩
theorem AnyC.first {m i : Nat} {oi : Oper} {v : Value} {L : Array Bool → Act → Prop} (hi : ops[i]? = some oi) (hsel : ∀ (j : Nat) (o : Oper) cs b, ops[j]? = some o → o.op ≠ .select cs b)
    (hs : Region.sinkB md ops m = true) (hc : Region.chainB md ops m = true) (hn : m < ops.size) (him : i < m) (hdone : ∀ listed a, L listed a → ∀ j ∈ Region.ready md ops listed, m ≤ j) :
    ∀ (f : Nat) (listed : Array Bool) (a : Act), HeadInv md ops m listed →
      (∀ j oj, ops[j]? = some oj → j ≠ i → listed.getD j true = false → (∀ e ∈ oj.after, Region.binds md e = true → e.on ≠ i) → oi.apart ops oj = true) →
      i ∈ Region.ready md ops listed → YieldsIn P ops C oi v a →
      AnyC P md ops C m L f (listed.setIfInBounds i true) (a.put oi.dst v) → AnyC P md ops C m L (f + 1) listed a := by
  intro f
  induction f with
  | zero =>
    intro listed a inv _ hr hy H
    refine ⟨fun h => (by rw [h] at hr; cases hr), fun j hj => ?_⟩
    have hjm : j < m := Nat.lt_of_not_le fun h => tail_waits hs hc hn inv _ i rfl him (mem_ready.1 hr).1 j h hj
    refine ⟨hjm, ?_⟩
    by_cases hji : j = i
    · subst hji; exact hy.qOp hi H
    · exact absurd (hdone _ _ H j (ready_mono hj hji)) (Nat.not_le.2 hjm)
  | succ f ih =>
    intro listed a inv hfree hr hy H
    have hun := (mem_ready.1 hr).1
    refine ⟨fun h => (by rw [h] at hr; cases hr), fun j hj => ?_⟩
    have hjm : j < m := Nat.lt_of_not_le fun h => tail_waits hs hc hn inv _ i rfl him hun j h hj
    refine ⟨hjm, ?_⟩
    by_cases hji : j = i
    · subst hji; exact hy.qOp hi H
    · obtain ⟨hjun, oj, hoj, hall⟩ := mem_ready.1 hj
      have hnot : ∀ e ∈ oj.after, Region.binds md e = true → e.on ≠ i := fun e he hb heq => by
        have h1 := hall e he hb
        rw [heq, getD_both hun] at h1
        cases h1
      refine qOp_mono (fun a' h3 => ?_) (qOp_put hoj (hfree j oj hoj hji hjun hnot) (fun cs b => hsel i oi cs b hi) (fun cs b => hsel j oj cs b hoj) hy (H.2 j (ready_mono hj hji)).2)
      refine ih _ a' (inv.set hj hjm) (fun k ok hk hki hun' hno => hfree k ok hk hki ?_ hno) (ready_mono hr (Ne.symm hji)) h3.1 ?_
      · by_cases hjk : j = k
        · subst hjk; exact hjun
        · rw [getD_set_ne true hjk] at hun'; exact hun'
      · rw [Array.setIfInBounds_comm _ _ hji]
        exact h3.2
theorem AnyC.lex {m g : Nat} {Z : Act → Prop} (hsel : Region.noSelect ops = true) (hs : Region.sinkB md ops m = true) (hc : Region.chainB md ops m = true) (hn : m < ops.size) :
    ∀ (l : List Oper) (k : Nat) (listed : Array Bool) (a : Act), (∀ j, j < l.length → l[j]? = ops[k + j]?) → k + l.length = m → HeadInv md ops m listed →
    Region.lexHead md ops g l.length k listed = true → wpQuiet P ops C Z l a → AnyC P md ops C m (fun listed' a' => Region.seqB md ops g m listed' = true ∧ Z a') l.length listed a
  | [], k, listed, a, _, hk, _, hB, h => by
    have : k = m := by simpa using hk
    subst this
    exact ⟨by simpa [Region.lexHead] using hB, h⟩
  | o :: l, k, listed, a, hl, hk, inv, hB, h => by
    have h0 : ops[k]? = some o := by simpa using (hl 0 (by simp)).symm
    simp only [List.length_cons, Region.lexHead, Bool.and_eq_true] at hB
    obtain ⟨⟨hr, hf⟩, hB'⟩ := hB
    have hkm : k < m := by simp only [List.length_cons] at hk; omega
    have hr' : k ∈ Region.ready md ops listed := by simpa using hr
    have hst : qOp P ops C k (wpQuiet P ops C Z l) a := by unfold qOp; simp only [h0]; exact h
    obtain ⟨v, hy, hK⟩ := yieldsIn_of_qOp h0 hst
    exact AnyC.first h0 (Region.noSelect_spec hsel) hs hc hn hkm (fun listed' a' hL => seqB_ready hL.1) l.length listed a inv (Region.free_spec h0 hf) hr' hy
      (AnyC.lex hsel hs hc hn l (k + 1) _ _ (fun j hj => by have := hl (j + 1) (by simp; omega); simpa [Nat.add_assoc, Nat.add_comm 1 j] using this) (by simp only [List.length_cons] at hk; omega) (inv.set hr' hkm) hB' hK)
theorem WC.tail {n : Md} {Q : Exit → Act → World → Prop} {fr : Fr} {w : World} {id : Nat} {l : List Oper} (m : Nat) (hm : P.follows .mixedOrders = true := by kernel_rfl) (hB : Region.lexTailB .any l.toArray m = true := by kernel_rfl) (hd : l.all (fun o => notSel o.op) = true := by kernel_rfl)
    (k : WQ P l.toArray n (Adds w) (ZL P l.toArray n.R (Adds w) Q (l.drop m)) (l.take m) fr) : WC P n Q (.region id l.toArray true) fr w := by
  intro a ha
  simp only [Region.lexTailB, Bool.and_eq_true, decide_eq_true_eq] at hB
  obtain ⟨⟨⟨⟨hsel, hn⟩, hs⟩, hc⟩, hlex⟩ := hB
  have hn' : m < l.length := by simpa using hn
  have htl : (l.take m).length = m := by simp; omega
  have hdl : (l.drop m).length = l.toArray.size - m := by simp
  have inv0 : HeadInv .any l.toArray m (Array.replicate l.toArray.size false) :=
    ⟨by simp, fun j oj _ hl => (by rw [getD_replicate_false] at hl; cases hl), fun t _ ht => getD_in (by simpa using ht) (getD_replicate_false _ _)⟩
  have H := AnyC.lex (md := .any) (g := l.toArray.size - m) hsel hs hc hn (l.take m) 0 _ a (fun j hj => by
    have hj' : j < m := by rw [htl] at hj; exact hj
    simp [hj']) (by simpa using htl) inv0 (by rw [htl]; exact hlex) (k a ha)
  refine wpIn_region_any hm ?_
  have := AnyC.any (R0 := n.R) (nds_arr hd) (Q := Q) (g := l.toArray.size - m) (fun listed a' w' hw' hL => by
    have := wpAnyIn_of_seq (R0 := n.R) (md := .any) (Q' := Q) (l.drop m) m listed a' w' (fun j => by simp [List.getElem?_drop]) (by rw [hdl]; exact hL.1) (hL.2 w' hw')
    rwa [hdl] at this) _ _ _ { w with drawn := w.drawn + 1 } ((Keeps.refl _ w).drew) H
  rw [htl, show m + (l.toArray.size - m) = l.toArray.size by omega] at this
  exact this
end

end Go.Proofs.YtdoenmokahbeaaaGreatDoor
