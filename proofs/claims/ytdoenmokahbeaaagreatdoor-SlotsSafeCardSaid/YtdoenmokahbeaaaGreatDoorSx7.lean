
/- Slices: parts of them; room made ahead. -/
import Derived.Test.YtdoenmokahbeaaaGreatDoorSx6
import Derived.Scope
namespace Go.Proofs.YtdoenmokahbeaaaGreatDoor
open Go.RowKit
set_option linter.unusedVariables false
set_option linter.unusedSimpArgs false

def cutA (A : Option Addr) (c a m : Nat) : Option Addr := if c = a then A else A.map (·.add (a * m))
theorem addr_add0 (p : Addr) : p.add 0 = p := by unfold Addr.add; split <;> simp_all
theorem cutA_zero (A : Option Addr) (c m : Nat) : cutA A c 0 m = A := by
  unfold cutA; split
  · rfl
  · cases A <;> simp [addr_add0]
section
variable {α : Type} {cl : α → List Value} {m : Nat} {E : TypeId} {A A' : Option Addr} {cap : Nat} {xs ys : List α} {w w' : World} {S : Nat → Prop} {b p o : Nat} {r : α}
theorem run_cutSl {P : Program} {T : TypeId} {lo hi mx : Option Value} {n cap a b c N C : Nat} {A' : Option Addr} (hT : P.underlying T = some (.slice E)) (hs : (P.info? E).map (·.size) = some m)
    (hmx : (mx = none ∧ c = cap) ∨ (∃ k i, mx = some (.int k i) ∧ i = (c : Int)) ∧ c ≤ cap) (hhi : (hi = none ∧ mx = none ∧ b = n) ∨ ∃ k i, hi = some (.int k i) ∧ i = (b : Int))
    (hlo : (lo = none ∧ a = 0) ∨ ∃ k i, lo = some (.int k i) ∧ i = (a : Int)) (hab : a ≤ b) (hbc : b ≤ c) (hA : cutA A c a m = A') (hN : b - a = N) (hC : c - a = C) :
    (Instr.sliceAt T (.slice A n cap) lo hi mx).run P w = .ok (.slice A' N C) w := by
  obtain ⟨j, hj, hjs⟩ := Option.map_eq_some_iff.1 hs
  have hle : (a : Int) ≤ b := by omega
  have hle2 : (b : Int) ≤ c := by omega
  subst hA hN hC
  rcases hmx with ⟨rfl, rfl⟩ | ⟨⟨k, i, rfl, rfl⟩, hc⟩ <;> rcases hhi with ⟨rfl, h1, rfl⟩ | ⟨k', i', rfl, rfl⟩ <;> rcases hlo with ⟨rfl, rfl⟩ | ⟨k'', i'', rfl, rfl⟩ <;>
    first
    | (cases h1; done)
    | (simp [Instr.sliceAt, Instr.slice, run_underlying hT, Instr.sliceBounds, Instr.sliceBound, asIntOf, sizeOf, typeInfo, hj, hjs, cutA, *])
theorem SlAt.cut {a b c : Nat} (h : SlAt cl m E A xs w) (hab : a ≤ b) (hb : b ≤ xs.length) (hbc : b ≤ c) : SlAt cl m E (cutA A c a m) ((xs.take b).drop a) w := by
  by_cases e : b = a
  · subst e; left; simp
  · rcases h with h | ⟨g, o, cs, E', fz, hA, hg, hs, hc⟩
    · subst h; simp at hb; omega
    · subst hA
      refine .inr ⟨g, o + a * m, cs, E', fz, ?_, hg, ?_, ?_⟩
      · unfold cutA; rw [if_neg (by omega)]; simp [addr_add]
      · have h1 : ((xs.take b).drop a).length = b - a := by simp; omega
        rw [h1]
        have h2 : b * m ≤ xs.length * m := Nat.mul_le_mul_right m hb
        have h3 : a * m + (b - a) * m = b * m := by rw [← Nat.add_mul]; congr 1; omega
        omega
      · intro i r hr
        rw [List.getElem?_drop] at hr
        have hlt := (List.getElem?_eq_some_iff.1 hr).1
        rw [List.getElem?_take_of_lt (by simp at hlt; omega)] at hr
        have := hc _ _ hr
        rw [show o + a * m + i * m = o + (a + i) * m by rw [Nat.add_mul]; omega]
        exact this
theorem SlAt.cutT {b c : Nat} (h : SlAt cl m E A xs w) (hb : b ≤ xs.length) (hbc : b ≤ c) : SlAt cl m E A (xs.take b) w := by
  have := h.cut (a := 0) (Nat.zero_le _) hb hbc
  rwa [cutA_zero, List.drop_zero] at this
theorem SlAt.cutD {a c : Nat} (h : SlAt cl m E A xs w) (ha : a ≤ xs.length) (hbc : xs.length ≤ c) : SlAt cl m E (cutA A c a m) (xs.drop a) w := by
  have := h.cut ha (Nat.le_refl _) hbc
  rwa [List.take_length] at this
theorem SlAt.cell {A : Option Addr} {cap : Nat} (h : OwAt cl m E A cap xs w) : xs.length ≤ cap := by
  rcases h.block with ⟨_, rfl, rfl⟩ | ⟨g, cur, _, _, h, _⟩
  · simp
  · exact h

theorem run_append_zerosN {T I ty : TypeId} (hk : EK cl m E) (hT : Tryz.prog.underlying T = some (.slice E)) (hI : Tryz.prog.underlying I = some (.int .i64)) {n : Nat} (h0 : 0 < n) (h1 : n ≤ 100000000000) (w : World) :
    ∃ A' cap' w', (Builtin.append_ #[T, I] ty #[.slice none 0 0, .int .i64 (n : Int)]).run Tryz.prog w = .ok (.slice A' n cap') w' ∧ OwAt cl m E A' cap' ([] : List α) w' ∧ Adds w w' ∧ (∀ i, blk A' = some i → w.heap.size ≤ i) ∧ n ≤ cap' := by
  obtain ⟨i, z, hi, hz, hs, hzs, hby⟩ := hk.info
  have hpos := hk.pos
  subst hs
  have hw : IntKind.i64.wrap (n : Int) = n := IntWalk.i64_in _ (by omega)
  have hb : n * i.bytes ≤ 100000000000 * 512 := Nat.mul_le_mul h1 hby
  have hb' : (n : Int) * i.bytes ≤ 100000000000 * 512 := by have h2 := Int.ofNat_le.2 hb; rw [Int.natCast_mul] at h2; omega
  have g1 : ¬ (n : Int) < 0 := by omega
  have g2 : ¬ (281474976710656 < (n : Int) * i.bytes) := by omega
  have g3 : n ≠ 0 := by omega
  have g4 : ¬ (9223372036854775807 < (n : Int)) := by omega
  have g5 : ¬ (281474976710656 < Builtin.nextslicecap n 0 * i.bytes) := by rw [nextslicecap_zero h0]; omega
  have g6 : i.size ≠ 0 := by omega
  have hge := grownCap_ge w n 0 E
  have hcm : grownCap w n 0 E ≤ maxLen := grownCap_le_maxLen w n 0 E (by unfold maxLen; omega)
  refine ⟨some ⟨w.heap.size, 0, none⟩, grownCap w n 0 E, w.drew.alloc (.cells (Builtin.zeroCells z.cells n ++ Builtin.zeroCells z.cells (grownCap w n 0 E - n)) E), ?_, ?_, ⟨rfl, rfl, rfl, by simp, fun k hk' _ => _root_.Go.heap_alloc_old w.drew _ hk'⟩, ?_, hge⟩
  · simp [Builtin.append_, run_underlying hT, run_underlying hI, sizeOf, typeInfo, zeroValue, hi, hz, asInt, asIntOf, hw, g1, g2, g3, g4, g5, g6, Question.forced, run_firstCells_none, newRow, grownCap]
    intro e; exact absurd e (by have := Nat.mul_pos h0 hpos; omega)
  · refine ⟨by simp only [List.flatMap_nil, List.length_nil, Nat.zero_mul], .inr ⟨w.heap.size, _, _, rfl, Nat.zero_le _, heap_alloc_new w.drew _, Nat.zero_le _, hcm, ?_, by rw [List.length_nil, Nat.zero_mul]; rfl⟩⟩
    rw [Array.size_append, size_zeroCells, size_zeroCells, hzs, ← Nat.add_mul, Nat.add_sub_cancel' hge]
  · intro i hi'
    simp only [blk, Option.map_some, Option.some.injEq] at hi'
    omega
theorem run_append_zeros {T I ty : TypeId} (hk : EK cl m E) (hT : Tryz.prog.underlying T = some (.slice E)) (hI : Tryz.prog.underlying I = some (.int .i64)) {n : Int} (h0 : 0 < n) (h1 : n ≤ 100000000000) (w : World) :
    ∃ A' cap' w', (Builtin.append_ #[T, I] ty #[.slice none 0 0, .int .i64 n]).run Tryz.prog w = .ok (.slice A' n.toNat cap') w' ∧ OwAt cl m E A' cap' ([] : List α) w' ∧ Adds w w' ∧ (∀ i, blk A' = some i → w.heap.size ≤ i) ∧ n.toNat ≤ cap' := by
  have h := run_append_zerosN (ty := ty) hk hT hI (n := n.toNat) (by omega) (by omega) w
  rwa [Int.toNat_of_nonneg (by omega)] at h
end

section
variable {P : Program} {ops : Array Oper} {n : Md} {Q : Exit → Act → World → Prop} {rest : List Oper} {fr : Fr} {w : World}
theorem WL.app2 {T T2 : TypeId} {x y : Operand} {d : Nat} {vx vy v : Value} {w' : World} {ty : TypeId} {ps : String} {af : Array Edge} {g : Option (Nat × Bool)} (hr : (Builtin.append_ #[T, T2] ty #[vx, vy]).run P w = .ok v w')
    (hw : want ops fr ⟨some d, .call ⟨.builtin .append, #[x, y], #[T, T2]⟩, ty, ps, af, g⟩ = some true := by kernel_rfl) (hx : ev fr x = some vx := by kernel_rfl) (hy : ev fr y = some vy := by kernel_rfl) (hn : Nat.blt d n.n = true := by kernel_rfl)
    (k : WL P ops n Q rest ((d, v) :: fr) w') : WL P ops n Q (⟨some d, .call ⟨.builtin .append, #[x, y], #[T, T2]⟩, ty, ps, af, g⟩ :: rest) fr w :=
  WL.wanted hw fun a ha K hK => by
    unfold Oper.wp
    simp only [execOp, resolve, invoke, builtin, List.map_toArray, List.map_cons, List.map_nil, ha.eval hx, ha.eval hy, Sem.run_bind, Sem.run_pure, Result.andThen_ok, hr, Oper.upon_value]
    exact hK _ _ (k _ (ha.put hn _))
end

section
variable {P : Program} {ops : Array Oper} {n : Md} {Q : Exit → Act → World → Prop} {C : World → Prop} {last f : Nat} {listed : Array Bool} {fr : Fr} {w : World}
theorem WA.one {i : Nat} {o : Oper} (hi : ops[i]? = some o) (k : WL P ops n (Nxt n.R P ops Q C last f listed i) [o] fr w) : ∀ a, FrOk n fr a → wpOpIn (fz n.R) 0 P ops (Nm Q) i (fun a' w' => (listed.getD last false = false → i ≠ last → C w') ∧ AnyW n.R P .any ops Q C last f (listed.setIfInBounds i true) a' w') a w := fun a ha => by
  have h := k a ha
  unfold wpOpIn
  simp only [hi]
  simp only [wpListIn] at h
  split
  · rename_i hw
    rw [if_pos hw] at h
    exact opTo h (fun _ _ h => h.2) (fun _ _ _ h => h.1)
  · rename_i hw
    rw [if_neg hw] at h
    exact ⟨fun _ _ => trivial, h.2.2⟩
/-- two that can come now -/
theorem WA.step2 (i j : Nat) {o q : Oper} (hr : Region.ready .any ops listed = [i, j] := by kernel_rfl) (hi : ops[i]? = some o := by kernel_rfl) (hj : ops[j]? = some q := by kernel_rfl)
    (k1 : WL P ops n (Nxt n.R P ops Q C last f listed i) [o] fr w) (k2 : WL P ops n (Nxt n.R P ops Q C last f listed j) [q] fr w) : WA P ops n Q C last (f + 1) listed fr w := fun a ha => by
  refine ⟨fun h0 => (by rw [hr] at h0; cases h0), fun x hx => ?_⟩
  rw [hr] at hx
  simp only [List.mem_cons, List.not_mem_nil, or_false] at hx
  rcases hx with rfl | rfl
  · exact WA.one hi k1 a ha
  · exact WA.one hj k2 a ha
end

/-! likewise, where the last operation is of the class, too -/
section
variable {P : Program} {md : Region.Mode} {ops : Array Oper} {Q : Exit → Act → World → Prop} {C : World → Prop}
theorem AnyW.first2 {R0 : Option Nat} {last i : Nat} {oi : Oper} {v : Value} (hi : ops[i]? = some oi) (nd : Nds ops) (hl : ops.size ≤ last) :
    ∀ (f : Nat) (listed : Array Bool) (a : Act) (w : World), C w → listed.getD last false = false →
      (∀ j oj, ops[j]? = some oj → j ≠ i → listed.getD j true = false → (∀ e ∈ oj.after, Region.binds md e = true → e.on ≠ i) → oi.apart ops oj = true) →
      i ∈ Region.ready md ops listed → YieldsC P ops C oi v a → AnyW R0 P md ops Q C last f (listed.setIfInBounds i true) (a.put oi.dst v) w → AnyW R0 P md ops Q C last (f + 1) listed a w := by
  intro f
  induction f with
  | zero =>
    intro listed a w hC hu _ hr hy H
    refine ⟨fun h => (by rw [h] at hr; cases hr), fun j hj => ?_⟩
    by_cases hji : j = i
    · subst hji; exact hy.wpOp nd hi hC ⟨fun _ _ => hC, H⟩
    · have := ready_mono hj hji
      rw [H.1] at this; cases this
  | succ f ih =>
    intro listed a w hC hu hfree hr hy H
    have hun := (mem_ready.1 hr).1
    refine ⟨fun h => (by rw [h] at hr; cases hr), fun j hj => ?_⟩
    by_cases hji : j = i
    · subst hji; exact hy.wpOp nd hi hC ⟨fun _ _ => hC, H⟩
    · obtain ⟨hjun, oj, hoj, hall⟩ := mem_ready.1 hj
      have hnot : ∀ e ∈ oj.after, Region.binds md e = true → e.on ≠ i := fun e he hb heq => by
        have h1 := hall e he hb
        rw [heq, getD_both hun] at h1; cases h1
      have hjl : j ≠ last := fun h => by
        have := (Array.getElem?_eq_some_iff.1 hoj).1
        omega
      have hil : i ≠ last := fun h => by
        have := (Array.getElem?_eq_some_iff.1 hi).1
        omega
      refine wpOpIn_mono (fun a' w' h3 => ⟨fun _ hj => h3.2.1 (by rw [getDf_set hil]; exact hu) hj, ?_⟩) (wpOp_putC hoj (hfree j oj hoj hji hjun hnot) (nd i oi hi) (nd j oj hoj) hy (H.2 j (ready_mono hj hji)))
      refine ih _ a' w' (h3.2.1 (by rw [getDf_set hil]; exact hu) hjl) (by rw [getDf_set hjl]; exact hu) (fun k ok hk hki hun' hno => hfree k ok hk hki ?_ hno) (ready_mono hr (Ne.symm hji)) h3.1 ?_
      · by_cases hjk : j = k
        · subst hjk; exact hjun
        · rw [getD_set_ne true hjk] at hun'; exact hun'
      · rw [Array.setIfInBounds_comm _ _ hji]
        exact h3.2.2
end
section
variable {P : Program} {ops : Array Oper} {n : Md} {Q : Exit → Act → World → Prop} {C : World → Prop} {last f : Nat} {listed : Array Bool} {fr : Fr} {w : World}
/-- Everything that is asked of an operation that is taken first. -/
def freeB2 (ops : Array Oper) (listed : Array Bool) (last i : Nat) : Bool := (Region.ready .any ops listed).contains i && Region.free .any ops listed i && Nat.ble ops.size last && !(listed.getD last false)
theorem WA.quiet2 (i : Nat) {oi : Oper} {d : Nat} (v : Value) (hC : C w) (hr : ∀ w, C w → (execOp (evf fr) oi).run P w = .ok (.value v) w := by intro _ _; kernel_rfl)
    (hs : ndsB ops = true := by kernel_rfl) (hi : ops[i]? = some oi := by kernel_rfl) (hf : freeB2 ops listed last i = true := by kernel_rfl) (hw : want ops fr oi = some true := by kernel_rfl) (ho : okOps fr oi = true := by kernel_rfl) (hd : oi.dst = some d := by kernel_rfl) (hn : Nat.blt d n.n = true := by kernel_rfl)
    (k : WA P ops n Q C last f (listed.setIfInBounds i true) ((d, v) :: fr) w) : WA P ops n Q C last (f + 1) listed fr w := fun a ha => by
  simp only [freeB2, Bool.and_eq_true, Bool.not_eq_true'] at hf
  obtain ⟨⟨⟨h1, h2⟩, h3⟩, h5⟩ := hf
  refine AnyW.first2 (v := v) hi (ndsB_spec hs) (Nat.le_of_ble_eq_true h3) f listed a w hC h5 (Region.free_spec hi h2) (by simpa using h1) (.inl ⟨ha.want hw, fun w' hw' => ?_⟩) ?_
  · rw [ha.exec ho]; exact hr w' hw'
  · rw [hd]; exact k _ (ha.put hn v)
theorem WA.quietS2 (i : Nat) {oi : Oper} {d : Nat} (hC : C w)
    (hs : ndsB ops = true := by kernel_rfl) (hi : ops[i]? = some oi := by kernel_rfl) (hf : freeB2 ops listed last i = true := by kernel_rfl) (hw : want ops fr oi = some false := by kernel_rfl) (hd : oi.dst = some d := by kernel_rfl) (hn : Nat.blt d n.n = true := by kernel_rfl)
    (k : WA P ops n Q C last f (listed.setIfInBounds i true) ((d, undef) :: fr) w) : WA P ops n Q C last (f + 1) listed fr w := fun a ha => by
  simp only [freeB2, Bool.and_eq_true, Bool.not_eq_true'] at hf
  obtain ⟨⟨⟨h1, h2⟩, h3⟩, h5⟩ := hf
  refine AnyW.first2 hi (ndsB_spec hs) (Nat.le_of_ble_eq_true h3) f listed a w hC h5 (Region.free_spec hi h2) (by simpa using h1) (.inr ⟨ha.want hw, rfl⟩) ?_
  rw [hd]; exact k _ (ha.put hn _)
/-- told by the run itself, at the frame's values -/
theorem WA.quietR2 (i : Nat) {oi : Oper} {d : Nat} (v : Value) (hC : C w) (hr : ∀ a, FrOk n fr a → ∀ w, C w → (execOp a.eval oi).run P w = .ok (.value v) w)
    (hs : ndsB ops = true := by kernel_rfl) (hi : ops[i]? = some oi := by kernel_rfl) (hf : freeB2 ops listed last i = true := by kernel_rfl) (hw : want ops fr oi = some true := by kernel_rfl) (hd : oi.dst = some d := by kernel_rfl) (hn : Nat.blt d n.n = true := by kernel_rfl)
    (k : WA P ops n Q C last f (listed.setIfInBounds i true) ((d, v) :: fr) w) : WA P ops n Q C last (f + 1) listed fr w := fun a ha => by
  simp only [freeB2, Bool.and_eq_true, Bool.not_eq_true'] at hf
  obtain ⟨⟨⟨h1, h2⟩, h3⟩, h5⟩ := hf
  refine AnyW.first2 hi (ndsB_spec hs) (Nat.le_of_ble_eq_true h3) f listed a w hC h5 (Region.free_spec hi h2) (by simpa using h1) (.inl ⟨ha.want hw, fun w' hw' => hr a ha w' hw'⟩) ?_
  rw [hd]; exact k _ (ha.put hn v)
end

section
variable {P : Program} {n : Md} {Q : Exit → Act → World → Prop} {fr : Fr} {w : World}
theorem stepR_scope {b : Frame} {a : Act} {k : List Item} {cs : List Frame} {c : Code} : step P (lone (b.atR a (.code (.scope c) :: k)) cs w) = .next (lone (b.atR a (.code c :: .inScope c :: k)) cs w) :=
  step_lone_go (by simp [stepG, stepG.exec, Frame.atR])
theorem stepR_inScope {b : Frame} {a : Act} {k : List Item} {cs : List Frame} {c : Code} : step P (lone (b.atR a (.inScope c :: k)) cs w) = .next (lone (b.atR a k) cs w) :=
  step_lone_go (by simp [stepG, stepG.exec, Frame.atR])
/-- a scope through which the run goes straight -/
theorem wpIn_scope {F : Fence} {m : Nat} {c : Code} {a : Act} (h : c.wpIn F m P (Exit.noGoto Q) a w) : (Code.scope c).wpIn F m P Q a w := by
  intro b k cs hro hb hr
  have h0 : (lone (b.atR a (.code (.scope c) :: k)) cs w).fenced P F := fenced_calm hb hr rfl
  obtain ⟨e, a₁, w₁, hq, harr⟩ := h b (.inScope c :: k) cs hro hb hr
  cases e with
  | normal => exact ⟨.normal, a₁, w₁, hq, .head h0 stepR_scope (StepsIn.trans harr (.one (fenced_calm hb hr rfl) stepR_inScope))⟩
  | exit id =>
    have hx : exitTo id (.inScope c :: k) = exitTo id k := by simp [exitTo]
    exact ⟨.exit id, a₁, w₁, hq, fun k' hk => .head h0 stepR_scope (harr.1 k' (by rw [hx]; exact hk)),
      fun hr' hk => let ⟨k₁, h1, h2⟩ := harr.2 hr' (by rw [hx]; exact hk); ⟨k₁, h1, .head h0 stepR_scope h2⟩⟩
  | goto l => exact hq.elim
  | ret => exact ⟨_, a₁, w₁, hq, .of_steps (.one h0 stepR_scope) harr⟩
  | panic ch => exact ⟨_, a₁, w₁, hq, .of_steps (.one h0 stepR_scope) harr⟩
  | outgrown => exact ⟨_, a₁, w₁, hq, .of_steps (.one h0 stepR_scope) harr⟩
theorem WC.scope {c : Code} (h : WC P n (Exit.noGoto Q) c fr w) : WC P n Q (.scope c) fr w := fun a ha => wpIn_scope (h a ha)
theorem WX.scopeN (h : WX n Q .normal fr w) : WX n (Exit.noGoto Q) .normal fr w := h
theorem WX.scopeR (h : WX n Q .ret fr w) : WX n (Exit.noGoto Q) .ret fr w := h
theorem WX.scopeE {id : Nat} (h : WX n Q (.exit id) fr w) : WX n (Exit.noGoto Q) (.exit id) fr w := h
end
theorem OwAt.off_sl {α : Type} {cl : α → List Value} {m : Nat} {E T' : TypeId} {A : Option Addr} {cap c : Nat} {xs : List α} {w : World} {cs : Array Value} {fz : Nat × Nat} (h : OwAt cl m E A cap xs w) (hc : w.heap[c]? = some (.cells cs T' fz)) (hT : T' ≠ E) : xs ≠ [] → ∀ p, A = some p → ¬ p.block = c := fun _ p hp e =>
  h.offT hc hT (by rw [hp]; simp [blk, e])

theorem OwAt.offOw {α β : Type} {cl : α → List Value} {cl' : β → List Value} {m m' : Nat} {E E' : TypeId} {A A' : Option Addr} {cap cap' : Nat} {xs : List α} {ys : List β} {w : World} (h : OwAt cl m E A cap xs w) (h' : OwAt cl' m' E' A' cap' ys w) (hE : E ≠ E') : ∀ i, blk A = some i → ¬ blk A' = some i := fun i hi e => by
  rcases h.block with ⟨rfl, _⟩ | ⟨g, cur, rfl, hg, _⟩
  · simp [blk] at hi
  · simp only [blk, Option.map_some, Option.some.injEq] at hi
    subst hi
    exact h'.offT hg hE e

theorem nlink_up {S : Nat → Prop} {A A' : Option Addr} {w0 w : World} (K : Keeps S w0 w) (n : blk A' = blk A ∨ ∃ k, blk A' = some k ∧ w.heap.size ≤ k) : blk A' = blk A ∨ ∃ k, blk A' = some k ∧ w0.heap.size ≤ k := by
  rcases n with n | ⟨k, n, hk⟩
  · exact .inl n
  · exact .inr ⟨k, n, Nat.le_trans K.size hk⟩

end Go.Proofs.YtdoenmokahbeaaaGreatDoor
