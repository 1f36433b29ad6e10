
/- Ranges over functions: the statement, its rounds, the calls of yield. -/
import Derived.Test.YtdoenmokahbeaaaGreatDoorSx8
import Derived.RangeFuncLeaves
import Derived.RangeFuncRecord
import Derived.LoopNIn
namespace Go.Proofs.YtdoenmokahbeaaaGreatDoor
open Go.RowKit
set_option linter.unusedVariables false
set_option linter.unusedSimpArgs false

/-- A loop's record. -/
abbrev Rec (fn : FuncId) (tmps : Array Value) (ps : Array Tmp) (asg body : Code) (D : Nat) : LoopState → Option Code → Obj := fun st pe => .loop { state := st, pending := pe, fn := fn, tmps := tmps, params := ps, assign := asg, body := body, defers := D }
theorem Keeps.putObj {w : World} {l : Nat} {o o' : Obj} (h : w.heap[l]? = some o) : Keeps (fun k => k = l) w (w.putObj l o') ∧ (w.putObj l o').heap[l]? = some o' :=
  ⟨⟨rfl, rfl, rfl, by simp, fun k _ hk => World.putObj_heap_other hk⟩, World.putObj_heap_same (lt_of_heap h)⟩
/-- A call of yield: its round. -/
def Ylds (P : Program) (l : Nat) (args : Array Value) (w : World) (R : Ending → World → Prop) : Prop :=
  ∃ fn tmps asg body, (Instr.yield l args).run P w = .ok (.round l fn tmps asg body) w ∧ RoundIn Fence.wide 0 P l fn tmps asg body w R
theorem Ylds.mono {P : Program} {l : Nat} {args : Array Value} {w : World} {R R' : Ending → World → Prop} (h : Ylds P l args w R) (hr : ∀ e w, R e w → R' e w) : Ylds P l args w R' := by
  obtain ⟨fn, tmps, asg, body, hy, hR⟩ := h
  exact ⟨fn, tmps, asg, body, hy, hR.mono hr⟩
section
variable {P : Program} {ops : Array Oper} {n : Md} {Q : Exit → Act → World → Prop} {rest : List Oper} {fr : Fr} {w : World}
theorem WL.yield {l : Nat} {gx : Operand} {xs : Array Operand} {ats : Array TypeId} {args : Array Value} {R : Ending → World → Prop} {d : Nat} {ty : TypeId} {ps : String} {af : Array Edge} {g : Option (Nat × Bool)} (hY : Ylds P l args w R)
    (hw : want ops fr ⟨some d, .call ⟨.value gx, xs, ats⟩, ty, ps, af, g⟩ = some true := by kernel_rfl) (hg : ev fr gx = some (.func (.yield l) #[] #[]) := by kernel_rfl) (he : evs fr xs.toList = some args.toList := by kernel_rfl) (hn : Nat.blt d n.n = true := by kernel_rfl)
    (k : ∀ e w', R e w' → ∃ v, e = .returned v ∧ WL P ops n Q rest ((d, v) :: fr) w') : WL P ops n Q (⟨some d, .call ⟨.value gx, xs, ats⟩, ty, ps, af, g⟩ :: rest) fr w := by
  intro a ha
  refine wpListIn_step fun K hK => ?_
  rw [ha.want hw, if_pos rfl]
  refine ⟨fun _ _ => trivial, ?_⟩
  rw [Oper.semAt_eq _ _ _ (by simp)]
  have hargs : xs.map a.eval = args := by
    apply Array.ext'
    simpa using ha.evs he
  obtain ⟨fn, tmps, asg, body, hy, hR⟩ := hY
  have hr : (execOp a.eval ⟨some d, .call ⟨.value gx, xs, ats⟩, ty, ps, af, g⟩).run P w = .ok (.round l fn tmps asg body) w := by
    simp only [execOp, resolve, ha.eval hg, Deferred.ofValue, hargs, Sem.run_bind, Sem.run_pure, Result.andThen_ok, invoke, Array.empty_append, Array.append_empty, hy]
  rw [hr]
  refine ⟨fun h => by simp [Fence.wide] at h, RoundIn.mono hR fun e w' he => ?_⟩
  obtain ⟨v, rfl, h⟩ := k e w' he
  exact hK _ _ (h _ (ha.put hn _))

/-! the statement -/
abbrev mkd (D : Nat) : Deferred := { target := .collected D, args := #[] }
/-- What the function that is ranged over comes to. -/
def RangeEnd (P : Program) (n : Md) (Q : Exit → Act → World → Prop) (fr : Fr) (l D : Nat) : Ending → World → Prop := fun e w => ∃ v r, e = .returned v ∧ w.heap[l]? = some (.loop r) ∧ r.state ≠ .busy ∧
  (∀ w', Keeps (fun k => k = l) w w' →
    (r.pending = none ∧ WX ⟨n.n, none, [mkd D]⟩ Q .normal fr w') ∨ (∃ c, r.pending = some c ∧ WC P ⟨n.n, none, [mkd D]⟩ Q c fr w'))
theorem WC.range {m : Nat} {gx : Operand} {ps : Array Tmp} {asg body : Code} {gf : FuncId} {lb : Array Value} (hg : ev fr gx = some (.func (.func gf) #[] lb) := by kernel_rfl) (he : ∀ args w, (callFunc gf args).run P w = .ok (.enter gf args) w)
    (h : ∀ (fn : FuncId) (tmps : Array Value) (rec : LoopState → Option Code → Obj) (l D : Nat) (w1 : World), rec = Rec fn tmps ps asg body D → w.heap.size ≤ D → w.heap.size ≤ l → D ≠ l → Adds w w1 → FrOk ⟨m, some l, []⟩ fr ⟨tmps, []⟩ → w1.heap[D]? = some (.deferred (some [])) → w1.heap[l]? = some (rec .ready none) →
      Calls P gf (#[.func (.yield l) #[] #[]] ++ lb) w1 (RangeEnd P ⟨m, none, []⟩ Q fr l D)) : WC P ⟨m, none, []⟩ Q (.rangeFunc gx ps asg body) fr w := by
  intro a ha
  refine wpIn_rangeFunc fun fn _ => ?_
  have hd : a.defers = [] := ha.defers
  have hL := World.alloc_heap_new (w.alloc (.deferred (some []))) (Rec fn a.tmps ps asg body w.heap.size .ready none)
  rw [World.size_alloc] at hL
  have hK : ((w.alloc (.deferred (some []))).alloc (Rec fn a.tmps ps asg body w.heap.size .ready none)).heap[w.heap.size]? = some (.deferred (some [])) := (Below.heap_alloc _ _ _ (by simp)).trans (World.alloc_heap_new w _)
  have hA : Adds w ((w.alloc (.deferred (some []))).alloc (Rec fn a.tmps ps asg body w.heap.size .ready none)) := ((Keeps.refl _ w).alloc _).alloc _
  have hE := run_enterLoop_outer (P := P) (w := w) fn a.tmps ps asg body
  obtain ⟨W1, hW1⟩ : ∃ W1, (w.alloc (.deferred (some []))).alloc (Rec fn a.tmps ps asg body w.heap.size .ready none) = W1 := ⟨_, rfl⟩
  rw [hW1] at hL hK hA hE
  refine ⟨w.heap.size + 1, [mkd w.heap.size], W1, { target := .fn (.func gf) lb, args := #[.func (.yield (w.heap.size + 1)) #[] #[]] }, W1, gf, #[.func (.yield (w.heap.size + 1)) #[] #[]] ++ lb, W1, hE, ?_, fun _ _ => trivial, ?_, fun h => by simp [Fence.wide] at h, ?_⟩
  · simp only [resolve, ha.eval hg]
    simp [go_sem]
  · simp [invoke, go_sem, he]
  · refine calls_fz ((h fn a.tmps _ (w.heap.size + 1) w.heap.size _ rfl (Nat.le_refl _) (by omega) (by omega) hA ⟨rfl, ha.size, ha.val⟩ hK hL).mono ?_)
    rintro e w3 ⟨v, ⟨st, pe, f1, t1, p1, a1, b1, d1⟩, rfl, hl, hb, hk⟩
    have hk := hk _ (Keeps.putObj (o' := .loop ⟨.exhausted, pe, f1, t1, p1, a1, b1, d1⟩) hl).1
    have ha' : FrOk ⟨m, none, [mkd w.heap.size]⟩ fr { a with defers := [mkd w.heap.size] ++ a.defers } := ⟨by simp [hd], ha.size, ha.val⟩
    refine ⟨pe, _, run_endLoop hl hb, ?_⟩
    rcases hk with ⟨hp, hx⟩ | ⟨c, hp, hx⟩
    · simp only at hp; subst hp; exact hx _ ha'
    · simp only at hp; subst hp; exact hx _ ha'

/-! a round -/
def bindF : List Tmp → List Value → Fr → Fr
  | t :: ts, v :: vs, fr => bindF ts vs ((t, v) :: fr)
  | _, _, fr => fr
theorem FrOk.binds {n : Md} (hn0 : n.D = []) : ∀ {ts : List Tmp} {vs : List Value} {fr : Fr} {tmps : Array Value}, ts.all (fun t => Nat.blt t n.n) = true → FrOk n fr ⟨tmps, []⟩ → FrOk n (bindF ts vs fr) ⟨(ts.zip vs).foldl (fun tmps (t, a) => tmps.setIfInBounds t a) tmps, []⟩
  | [], _, fr, tmps, _, h => by simpa [bindF] using h
  | t :: ts, [], fr, tmps, _, h => by simpa [bindF] using h
  | t :: ts, v :: vs, fr, tmps, ht, h => by
    simp only [List.all_cons, Bool.and_eq_true] at ht
    have h1 := h.put (d := t) ht.1 v
    have h2 := FrOk.binds (vs := vs) (tmps := tmps.setIfInBounds t v) hn0 ht.2 (by simpa [Act.put] using h1)
    simpa [bindF] using h2
/-- What is asked behind the assignments: the round begins. -/
def Beg (P : Program) (l : Nat) (body : Code) (R : Ending → World → Prop) : Exit → Act → World → Prop :=
  Exit.then (fun a1 w1 => ∃ w2, (Instr.beginRound l).run P w1 = .ok () w2 ∧ body.wpIn (fz (some l)) 0 P (roundPost P l R) a1 w2) (fun _ _ _ => False)
section
variable {m l D : Nat} {fn : FuncId} {tmps args : Array Value} {ps : Array Tmp} {asg body body' : Code} {R : Ending → World → Prop} {rec : LoopState → Option Code → Obj} {st : LoopState} {pe : Option Code}
theorem Ylds.mk (hrec : rec = Rec fn tmps ps asg body D) (hl : w.heap[l]? = some (rec .ready none)) (hF : FrOk ⟨m, some l, []⟩ fr ⟨tmps, []⟩)
    (hb : ps.size = args.size := by kernel_rfl) (hp : ps.toList.all (fun t => Nat.blt t m) = true := by kernel_rfl)
    (k : WC P ⟨m, some l, []⟩ (Beg P l body R) asg (bindF ps.toList args.toList fr) w) : Ylds P l args w R := by
  subst hrec
  have h2 := FrOk.binds (vs := args.toList) (n := ⟨m, some l, []⟩) rfl hp hF
  refine ⟨_, _, _, _, run_yield hl hb.symm, ?_⟩
  have h3 := roundIn_of_wpIn (F := Fence.wide) (l := l) (f := fn) (R := R) trivial (k _ h2)
  rw [← Array.foldl_toList, Array.toList_zip]
  exact h3
theorem WX.begin (hrec : rec = Rec fn tmps ps asg body D) (hl : w.heap[l]? = some (rec .ready none))
    (k : ∀ w2, w2.heap[l]? = some (rec .busy none) → Keeps (fun k => k = l) w w2 → WC P ⟨m, some l, []⟩ (roundPost P l R) body' fr w2) : WX ⟨m, some l, []⟩ (Beg P l body' R) .normal fr w := by
  subst hrec
  exact fun a ha => ⟨_, run_beginRound hl rfl, k _ (Keeps.putObj hl).2 (Keeps.putObj hl).1 a ha⟩
theorem WX.roundN (hrec : rec = Rec fn tmps ps asg body D) (hl : w.heap[l]? = some (rec st pe)) (k : ∀ w2, w2.heap[l]? = some (rec .ready none) → Keeps (fun k => k = l) w w2 → R (.returned (.bool true)) w2) : WX n (roundPost P l R) .normal fr w := by
  subst hrec
  exact fun a ha => ⟨_, _, run_endRound none hl, k _ (Keeps.putObj hl).2 (Keeps.putObj hl).1⟩
theorem WX.roundX {id : Nat} (hrec : rec = Rec fn tmps ps asg body D) (hl : w.heap[l]? = some (rec st pe)) (k : ∀ w2, w2.heap[l]? = some (rec .done (some (.exit id))) → Keeps (fun k => k = l) w w2 → R (.returned (.bool false)) w2) : WX n (roundPost P l R) (.exit id) fr w := by
  subst hrec
  exact fun a ha => ⟨_, _, run_endRound (some (.exit id)) hl, k _ (Keeps.putObj hl).2 (Keeps.putObj hl).1⟩
theorem WX.roundR (hrec : rec = Rec fn tmps ps asg body D) (hl : w.heap[l]? = some (rec st pe)) (k : ∀ w2, w2.heap[l]? = some (rec .done (some .ret)) → Keeps (fun k => k = l) w w2 → R (.returned (.bool false)) w2) : WX n (roundPost P l R) .ret fr w := by
  subst hrec
  exact fun a ha => ⟨_, _, run_endRound (some .ret) hl, k _ (Keeps.putObj hl).2 (Keeps.putObj hl).1⟩
/-- it has come to its end -/
theorem RangeEnd.go {v : Value} (hrec : rec = Rec fn tmps ps asg body D) (hl : w.heap[l]? = some (rec .ready none)) (k : ∀ w', Keeps (fun k => k = l) w w' → WX ⟨m, none, [mkd D]⟩ Q .normal fr w') : RangeEnd P ⟨m, none, []⟩ Q fr l D (.returned v) w := by
  subst hrec
  exact ⟨v, _, rfl, hl, (by simp), fun w' hk => .inl ⟨rfl, k w' hk⟩⟩
/-- a round has left it -/
theorem RangeEnd.jump {v : Value} {c : Code} (hrec : rec = Rec fn tmps ps asg body D) (hl : w.heap[l]? = some (rec .done (some c))) (k : ∀ w', Keeps (fun k => k = l) w w' → WC P ⟨m, none, [mkd D]⟩ Q c fr w') : RangeEnd P ⟨m, none, []⟩ Q fr l D (.returned v) w := by
  subst hrec
  exact ⟨v, _, rfl, hl, (by simp), fun w' hk => .inr ⟨c, rfl, k w' hk⟩⟩
end

/-! a loop, round by round -/
theorem WC.rounds {c : Code} (m : Nat) (h : WC P n (Exit.then (Code.roundsIn (fz n.R) 0 P c Q m) Q) c fr w) : WC P n Q (.loop c) fr w := fun a ha => wpIn_loop_rounds (m + 1) (h a ha)
theorem WX.more {c : Code} {m : Nat} (h : WC P n (Exit.then (Code.roundsIn (fz n.R) 0 P c Q m) Q) c fr w) : WX n (Exit.then (Code.roundsIn (fz n.R) 0 P c Q (m + 1)) Q) .normal fr w := fun a ha => h a ha

/-! a function that holds such a statement -/
theorem Calls.startM {f : FuncId} {fn : Func} {c : Code} {args : Array Value} {R : Ending → World → Prop} (hf : P.funcs[f]? = some fn) (hb : fn.body = some c) (hn : Nat.ble args.size fn.ntmps = true)
    (h : WC P ⟨fn.ntmps, none, []⟩ (bodyPostM Fence.wide 0 P fn R) c (fr0 0 args.toList) w) : Calls P f args w R := by
  refine (callsIn_wide (n := 0)).1 (callsIn_of_wp_marks hf hb trivial (h _ ⟨rfl, by have := Nat.le_of_ble_eq_true hn; simp; omega, fun t v ht => ?_⟩))
  obtain ⟨_, h2⟩ := look_fr0 _ _ _ _ ht
  have h3 : args[t]? = some v := by simpa using h2
  have hlt : t < args.size := (Array.getElem?_eq_some_iff.1 h3).1
  simp [Array.getElem?_append_left hlt, h3]
theorem WX.retM {m D : Nat} {fn : Func} {R : Ending → World → Prop} {rs : List ResultVar} (hD : w.heap[D]? = some (.deferred (some []))) (k : ∀ w', Keeps (fun k => k = D) w w' → ∃ vs v, RV P fr w' rs vs ∧ tup vs = v ∧ R (.returned v) w') (hf : fn.results = rs.toArray := by rfl) : WX ⟨m, none, [mkd D]⟩ (bodyPostM Fence.wide 0 P fn R) .ret fr w := fun a ha => by
  obtain ⟨vs, v, h, hv, hR⟩ := k _ (Keeps.putObj hD).1
  show LeavesInM Fence.wide 0 P fn a.tmps R a.defers .returning w
  rw [ha.defers]
  exact ⟨by simp, .inl ⟨D, _, rfl, run_takeDeferred hD, v, RV.results ha hf h v hv, hR⟩⟩
theorem WX.endM {m D : Nat} {fn : Func} {R : Ending → World → Prop} {rs : List ResultVar} (hD : w.heap[D]? = some (.deferred (some []))) (k : ∀ w', Keeps (fun k => k = D) w w' → ∃ vs v, RV P fr w' rs vs ∧ tup vs = v ∧ R (.returned v) w') (hf : fn.results = rs.toArray := by rfl) : WX ⟨m, none, [mkd D]⟩ (bodyPostM Fence.wide 0 P fn R) .normal fr w := WX.retM hD k hf
theorem WX.retM0 {m : Nat} {fn : Func} {R : Ending → World → Prop} {rs : List ResultVar} (vs : List Value) (v : Value) (h : RV P fr w rs vs) (hf : fn.results = rs.toArray := by rfl) (hv : tup vs = v := by rfl) (k : R (.returned v) w) : WX ⟨m, none, []⟩ (bodyPostM Fence.wide 0 P fn R) .ret fr w := fun a ha => by
  show LeavesInM Fence.wide 0 P fn a.tmps R a.defers .returning w
  rw [ha.defers]
  exact ⟨v, RV.results ha hf h v hv, k⟩
end

/-! quiet operations that the last one waits for by way of others -/
section
variable {P : Program} {ops : Array Oper} {Q : Exit → Act → World → Prop} {C : World → Prop}
def reachB (ops : Array Oper) : Nat → Nat → Nat → Bool
  | 0, _, _ => false
  | f + 1, t, i => ((ops[t]?).map fun o => o.after.any fun e => Region.binds .any e && (e.on == i || reachB ops f e.on i)).getD false
def Closed (ops : Array Oper) (listed : Array Bool) : Prop := ∀ (j : Nat) (oj : Oper), ops[j]? = some oj → listed.getD j false = true → ∀ e ∈ oj.after, Region.binds .any e = true → listed.getD e.on false = true
def closedB (ops : Array Oper) (listed : Array Bool) : Bool := (List.range ops.size).all fun j => !(listed.getD j false) || ((ops[j]?).map (·.after.all fun e => !Region.binds .any e || listed.getD e.on false)).getD false
theorem closedB_spec {listed : Array Bool} (h : closedB ops listed = true) : Closed ops listed := fun j oj hj hl e he hb => by
  have h1 := List.all_eq_true.1 h j (List.mem_range.2 (Array.getElem?_eq_some_iff.1 hj).1)
  simp only [hl, hj, Option.map_some, Option.getD_some, Bool.not_true, Bool.false_or] at h1
  have h2 := Array.all_eq_true'.1 h1 e he
  simpa [hb] using h2
theorem reach_un {listed : Array Bool} {i : Nat} (hc : Closed ops listed) (hi : listed.getD i false = false) : ∀ (f t : Nat), reachB ops f t i = true → ∃ o, ops[t]? = some o ∧ ∃ e ∈ o.after, Region.binds .any e = true ∧ listed.getD e.on false = false
  | 0, t, h => by simp [reachB] at h
  | f + 1, t, h => by
    unfold reachB at h
    cases ho : ops[t]? with
    | none => rw [ho] at h; simp at h
    | some o =>
      rw [ho] at h
      simp only [Option.map_some, Option.getD_some] at h
      obtain ⟨e, he, h⟩ := Array.any_eq_true'.1 h
      simp only [Bool.and_eq_true, Bool.or_eq_true, beq_iff_eq] at h
      refine ⟨o, rfl, e, he, h.1, ?_⟩
      rcases h.2 with h2 | h2
      · rw [h2]; exact hi
      · obtain ⟨o2, ho2, e2, he2, hb2, hu2⟩ := reach_un hc hi f e.on h2
        cases hl : listed.getD e.on false with
        | false => rfl
        | true => rw [hc e.on o2 ho2 hl e2 he2 hb2] at hu2; cases hu2
theorem getDf_both {l : Array Bool} {i : Nat} (h : l.getD i true = false) : l.getD i false = false := by
  simp only [Array.getD_eq_getD_getElem?] at *
  cases hi : l[i]? with
  | none => rfl
  | some x => rw [hi] at h; exact h
theorem Closed.set {listed : Array Bool} {j : Nat} {oj : Oper} (hc : Closed ops listed) (hj : ops[j]? = some oj) (ha : ∀ e ∈ oj.after, Region.binds .any e = true → listed.getD e.on false = true) : Closed ops (listed.setIfInBounds j true) := fun t ot ht hl e he hb => by
  have up : ∀ u, listed.getD u false = true → (listed.setIfInBounds j true).getD u false = true := fun u hu => by
    simp only [Array.getD_eq_getD_getElem?, Array.getElem?_setIfInBounds] at *
    split
    · split
      · rfl
      · next h => subst_vars; rw [Array.getElem?_eq_none (by omega)] at hu; exact hu
    · exact hu
  by_cases e2 : j = t
  · subst e2; rw [hj] at ht; cases ht; exact up _ (ha e he hb)
  · rw [getDf_set e2] at hl; exact up _ (hc t ot ht hl e he hb)
theorem AnyW.first3 {R0 : Option Nat} {last i g : Nat} {oi : Oper} {v : Value} (hi : ops[i]? = some oi) (nd : Nds ops) (hl : reachB ops g last i = true) (hil : i ≠ last) :
    ∀ (f : Nat) (listed : Array Bool) (a : Act) (w : World), C w → Closed ops listed → listed.getD last false = false →
      (∀ j oj, ops[j]? = some oj → j ≠ i → listed.getD j true = false → (∀ e ∈ oj.after, Region.binds .any e = true → e.on ≠ i) → oi.apart ops oj = true) →
      i ∈ Region.ready .any ops listed → YieldsC P ops C oi v a → AnyW R0 P .any ops Q C last f (listed.setIfInBounds i true) (a.put oi.dst v) w → AnyW R0 P .any ops Q C last (f + 1) listed a w := by
  intro f
  induction f with
  | zero =>
    intro listed a w hC hcl hu _ hr hy H
    refine ⟨fun h => (by rw [h] at hr; cases hr), fun j hj => ?_⟩
    by_cases hji : j = i
    · subst hji; exact hy.wpOp nd hi hC ⟨fun _ _ => hC, H⟩
    · have := ready_mono hj hji
      rw [H.1] at this; cases this
  | succ f ih =>
    intro listed a w hC hcl hu hfree hr hy H
    have hun := (mem_ready.1 hr).1
    refine ⟨fun h => (by rw [h] at hr; cases hr), fun j hj => ?_⟩
    by_cases hji : j = i
    · subst hji; exact hy.wpOp nd hi hC ⟨fun _ _ => hC, H⟩
    · obtain ⟨hjun, oj, hoj, hall⟩ := mem_ready.1 hj
      have hnot : ∀ e ∈ oj.after, Region.binds .any e = true → e.on ≠ i := fun e he hb heq => by
        have h1 := hall e he hb
        rw [heq, getD_both hun] at h1; cases h1
      have hjl : j ≠ last := fun h => by
        subst h
        obtain ⟨o', ho', e, he, hb, hon⟩ := reach_un hcl (getDf_both hun) _ _ hl
        rw [hoj] at ho'; cases ho'
        have h1 := hall e he hb
        rw [hon] at h1; cases h1
      refine wpOpIn_mono (fun a' w' h3 => ⟨fun _ hj => h3.2.1 (by rw [getDf_set hil]; exact hu) hj, ?_⟩) (wpOp_putC hoj (hfree j oj hoj hji hjun hnot) (nd i oi hi) (nd j oj hoj) hy (H.2 j (ready_mono hj hji)))
      refine ih _ a' w' (h3.2.1 (by rw [getDf_set hil]; exact hu) hjl) (hcl.set hoj hall) (by rw [getDf_set hjl]; exact hu) (fun k ok hk hki hun' hno => hfree k ok hk hki ?_ hno) (ready_mono hr (Ne.symm hji)) h3.1 ?_
      · by_cases hjk : j = k
        · subst hjk; exact hjun
        · rw [getD_set_ne true hjk] at hun'; exact hun'
      · rw [Array.setIfInBounds_comm _ _ hji]
        exact h3.2.2
end
section
variable {P : Program} {ops : Array Oper} {n : Md} {Q : Exit → Act → World → Prop} {C : World → Prop} {last f : Nat} {listed : Array Bool} {fr : Fr} {w : World}
def freeB3 (ops : Array Oper) (listed : Array Bool) (last i : Nat) : Bool := (Region.ready .any ops listed).contains i && Region.free .any ops listed i && reachB ops ops.size last i && !(i == last) && !(listed.getD last false) && closedB ops listed
theorem WA.firstT (i : Nat) {oi : Oper} {d : Nat} (v : Value) (hC : C w) (hs : ndsB ops = true) (hi : ops[i]? = some oi) (hf : freeB3 ops listed last i = true) (hd : oi.dst = some d) (hn : Nat.blt d n.n = true)
    (hy : ∀ a, FrOk n fr a → YieldsC P ops C oi v a) (k : WA P ops n Q C last f (listed.setIfInBounds i true) ((d, v) :: fr) w) : WA P ops n Q C last (f + 1) listed fr w := fun a ha => by
  simp only [freeB3, Bool.and_eq_true, Bool.not_eq_true', beq_eq_false_iff_ne] at hf
  obtain ⟨⟨⟨⟨⟨h1, h2⟩, h3⟩, h4⟩, h5⟩, h6⟩ := hf
  refine AnyW.first3 (v := v) hi (ndsB_spec hs) h3 h4 f listed a w hC (closedB_spec h6) h5 (Region.free_spec hi h2) (by simpa using h1) (hy a ha) ?_
  rw [hd]; exact k _ (ha.put hn v)
theorem WA.quietT (i : Nat) {oi : Oper} {d : Nat} (v : Value) (hC : C w) (hr : ∀ w, C w → (execOp (evf fr) oi).run P w = .ok (.value v) w := by intro _ _; kernel_rfl)
    (hs : ndsB ops = true := by kernel_rfl) (hi : ops[i]? = some oi := by kernel_rfl) (hf : freeB3 ops listed last i = true := by kernel_rfl) (hw : want ops fr oi = some true := by kernel_rfl) (ho : okOps fr oi = true := by kernel_rfl) (hd : oi.dst = some d := by kernel_rfl) (hn : Nat.blt d n.n = true := by kernel_rfl)
    (k : WA P ops n Q C last f (listed.setIfInBounds i true) ((d, v) :: fr) w) : WA P ops n Q C last (f + 1) listed fr w :=
  WA.firstT i v hC hs hi hf hd hn (fun a ha => .inl ⟨ha.want hw, fun w' hw' => by rw [ha.exec ho]; exact hr w' hw'⟩) k
theorem WA.quietST (i : Nat) {oi : Oper} {d : Nat} (hC : C w)
    (hs : ndsB ops = true := by kernel_rfl) (hi : ops[i]? = some oi := by kernel_rfl) (hf : freeB3 ops listed last i = true := by kernel_rfl) (hw : want ops fr oi = some false := by kernel_rfl) (hd : oi.dst = some d := by kernel_rfl) (hn : Nat.blt d n.n = true := by kernel_rfl)
    (k : WA P ops n Q C last f (listed.setIfInBounds i true) ((d, undef) :: fr) w) : WA P ops n Q C last (f + 1) listed fr w :=
  WA.firstT i undef hC hs hi hf hd hn (fun a ha => .inr ⟨ha.want hw, rfl⟩) k
theorem WA.quietRT (i : Nat) {oi : Oper} {d : Nat} (v : Value) (hC : C w) (hr : ∀ a, FrOk n fr a → ∀ w, C w → (execOp a.eval oi).run P w = .ok (.value v) w)
    (hs : ndsB ops = true := by kernel_rfl) (hi : ops[i]? = some oi := by kernel_rfl) (hf : freeB3 ops listed last i = true := by kernel_rfl) (hw : want ops fr oi = some true := by kernel_rfl) (hd : oi.dst = some d := by kernel_rfl) (hn : Nat.blt d n.n = true := by kernel_rfl)
    (k : WA P ops n Q C last f (listed.setIfInBounds i true) ((d, v) :: fr) w) : WA P ops n Q C last (f + 1) listed fr w :=
  WA.firstT i v hC hs hi hf hd hn (fun a ha => .inl ⟨ha.want hw, fun w' hw' => hr a ha w' hw'⟩) k
end

end Go.Proofs.YtdoenmokahbeaaaGreatDoor
