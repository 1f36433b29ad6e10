
/- Bytes in a row; indices; what a slice of a string is. -/
import Derived.Test.YtdoenmokahbeaaaGreatDoorSx3
import Derived.Laws.BytesString
namespace Go.Proofs.YtdoenmokahbeaaaGreatDoor
open Go.RowKit
set_option linter.unusedVariables false
set_option linter.unusedSimpArgs false

/-- new memory, its address in a value -/
theorem WL.newF {P : Program} {ops : Array Oper} {n : Md} {Q : Exit → Act → World → Prop} {rest : List Oper} {fr : Fr} {w : World} {o : Oper} {d : Nat} {T : TypeId} (cs : Array Value) (f : Nat → Value) (hw : want ops fr o = some true := by kernel_rfl) (hs : okOps fr o = true := by kernel_rfl) (hd : o.dst = some d := by kernel_rfl) (hn : Nat.blt d n.n = true := by kernel_rfl)
    (hr : (execOp (evf fr) o).run P w = .ok (.value (f w.heap.size)) (w.alloc (.cells cs T)) := by kernel_rfl)
    (k : ∀ (b : Nat) (w' : World), w.heap.size ≤ b → w'.heap[b]? = some (.cells cs T (0, 0)) → Adds w w' → WL P ops n Q rest ((d, f b) :: fr) w') : WL P ops n Q (o :: rest) fr w :=
  WL.opW _ hw hs hr hd hn (k _ _ (Nat.le_refl _) (heap_alloc_new' w _) ((Keeps.refl _ w).alloc _))

def oev (fr : Fr) : Option Operand → Option (Option Value)
  | none => some none
  | some x => match ev fr x with
    | some v => some (some v)
    | none => none
theorem FrOk.oeval {n : Md} {fr : Fr} {a : Act} (h : FrOk n fr a) {x : Option Operand} {v : Option Value} (he : oev fr x = some v) : x.map a.eval = v := by
  cases x with
  | none => simpa [oev] using he
  | some x =>
    simp only [oev] at he
    cases hx : ev fr x with
    | none => simp [hx] at he
    | some u => simp only [hx, Option.some.injEq] at he; simp [h.eval hx, he]
section
variable {P : Program} {ops : Array Oper} {n : Md} {Q : Exit → Act → World → Prop} {rest : List Oper} {fr : Fr} {w : World} {C : World → Prop} {Z : Act → Prop}
/-- The element's address. -/
theorem run_idx {T E : TypeId} {m b o len cap : Nat} {kk : IntKind} {i : Int} (hT : P.underlying T = some (.slice E)) (hE : (P.info? E).map (·.size) = some m) (h0 : 0 ≤ i) (h1 : i < len) :
    (Instr.indexAt T (.slice (some ⟨b, o, none⟩) len cap) (.int kk i)).run P w = .ok (.pointer (some ⟨b, o + i.toNat * m, none⟩)) w := by
  obtain ⟨j, hj, hjs⟩ := Option.map_eq_some_iff.1 hE
  have ha : (⟨b, o, none⟩ : Addr).add (i.toNat * m) = ⟨b, o + i.toNat * m, none⟩ := by
    unfold Addr.add; split <;> simp_all
  simp [Instr.indexAt, asIntOf, run_underlying hT, h0, h1, sizeOf, typeInfo, hj, hjs, ha]
theorem WL.idx {T E : TypeId} {m b o len cap d : Nat} {kk : IntKind} {i : Int} {x y : Operand} {ty : TypeId} {ps : String} {af : Array Edge} {g : Option (Nat × Bool)} (h0 : 0 ≤ i) (h1 : i < len) (hT : P.underlying T = some (.slice E) := by kernel_rfl) (hE : (P.info? E).map (·.size) = some m := by kernel_rfl)
    (hw : want ops fr ⟨some d, .indexAddr T x y, ty, ps, af, g⟩ = some true := by kernel_rfl) (hx : ev fr x = some (.slice (some ⟨b, o, none⟩) len cap) := by kernel_rfl) (hy : ev fr y = some (.int kk i) := by kernel_rfl) (hn : Nat.blt d n.n = true := by kernel_rfl)
    (k : WL P ops n Q rest ((d, .pointer (some ⟨b, o + i.toNat * m, none⟩)) :: fr) w) : WL P ops n Q (⟨some d, .indexAddr T x y, ty, ps, af, g⟩ :: rest) fr w :=
  WL.wanted hw fun a ha K hK => by
    unfold Oper.wp
    simp only [execOp, ha.eval hx, ha.eval hy, Sem.run_bind, run_idx hT hE h0 h1, Result.andThen_ok, Sem.run_pure, Oper.upon_value]
    exact hK _ _ (k _ (ha.put hn _))
theorem WQ.idx {T E : TypeId} {m b o len cap d : Nat} {kk : IntKind} {i : Int} {x y : Operand} {ty : TypeId} {ps : String} {af : Array Edge} {g : Option (Nat × Bool)} (h0 : 0 ≤ i) (h1 : i < len) (hT : P.underlying T = some (.slice E) := by kernel_rfl) (hE : (P.info? E).map (·.size) = some m := by kernel_rfl)
    (hw : want ops fr ⟨some d, .indexAddr T x y, ty, ps, af, g⟩ = some true := by kernel_rfl) (hx : ev fr x = some (.slice (some ⟨b, o, none⟩) len cap) := by kernel_rfl) (hy : ev fr y = some (.int kk i) := by kernel_rfl) (hn : Nat.blt d n.n = true := by kernel_rfl)
    (k : WQ P ops n C Z rest ((d, .pointer (some ⟨b, o + i.toNat * m, none⟩)) :: fr)) : WQ P ops n C Z (⟨some d, .indexAddr T x y, ty, ps, af, g⟩ :: rest) fr :=
  WQ.wanted hw fun a ha K hK => ⟨_, fun w _ => by
    unfold Oper.quietAt
    simp only [execOp, ha.eval hx, ha.eval hy, Sem.run_bind, run_idx hT hE h0 h1, Result.andThen_ok, Sem.run_pure, Oper.quietUpon, and_self], hK _ (k _ (ha.put hn _))⟩
/-- A text's part. -/
theorem WL.opR {o : Oper} {d : Nat} (v : Value) (hw : want ops fr o = some true) (hs : okOps fr o = true) (hd : o.dst = some d) (hn : Nat.blt d n.n = true) (hr : (execOp (evf fr) o).run P w = .ok (.value v) w)
    (k : WL P ops n Q rest ((d, v) :: fr) w) : WL P ops n Q (o :: rest) fr w := WL.op v hw hs hr hd hn k
theorem WL.wr {T : TypeId} {x y : Operand} {p : Addr} {v : Value} {w' : World} {ty : TypeId} {ps : String} {af : Array Edge} {g : Option (Nat × Bool)} (hs : (storeVar T p v).run P w = .ok () w' := by kernel_rfl)
    (hw : want ops fr ⟨none, .store T x y, ty, ps, af, g⟩ = some true := by kernel_rfl) (he : ev fr x = some (.pointer (some p)) := by kernel_rfl) (hv : ev fr y = some v := by kernel_rfl) (k : WL P ops n Q rest fr w') : WL P ops n Q (⟨none, .store T x y, ty, ps, af, g⟩ :: rest) fr w :=
  WL.wanted hw fun a ha K hK => by
    unfold Oper.wp
    simp only [execOp, ha.eval he, ha.eval hv, Instr.storeAt, Instr.sureAddr, Sem.run_bind, Sem.run_pure, Result.andThen_ok, hs, Oper.upon_skip]
    exact hK _ _ (k _ ha)
end

/-! bytes -/
/-- A row of bytes that came of a text. -/
def BytesAt (b : Nat) (l : List UInt8) (c : Nat) (w : World) : Prop := l.length ≤ c ∧ w.heap[b]? = some (.cells (Lib.byteCells l ++ List.replicate (c - l.length) (Value.int .u8 0)).toArray 5 (c, c + 1))
section
variable {b c : Nat} {l : List UInt8} {w w' : World}
theorem BytesAt.lt (h : BytesAt b l c w) : b < w.heap.size := lt_of_heap h.2
theorem BytesAt.keeps {S : Nat → Prop} (h : BytesAt b l c w) (k : Keeps S w w') (hn : ¬ S b) : BytesAt b l c w' := ⟨h.1, k.heap h.2 hn⟩
theorem bytes_get (h : BytesAt b l c w) {i : Nat} (hi : i < l.length) : w.cell? ⟨b, i, none⟩ = some (.int .u8 (l[i].toNat)) := by
  refine cell_at h.2 i ?_
  simp [Lib.byteCells, hi, List.getElem?_append_left]
theorem bytes_ld (h : BytesAt b l c w) {i : Nat} (hi : i < l.length) : (loadVar 5 ⟨b, i, none⟩).run Tryz.prog w = .ok (.int .u8 (l[i].toNat)) w := by
  have hc := bytes_get h hi
  have hsc : scT Tryz.prog 5 = true := by kernel_rfl
  unfold loadVar
  simp only [Sem.run_bind, run_isAgg_sc hsc, Result.andThen_ok]
  simp [go_sem, hc]
theorem bytes_st (h : BytesAt b l c w) {i : Nat} (hi : i < l.length) (u : UInt8) : ∃ w', (storeVar 5 ⟨b, i, none⟩ (.int .u8 u.toNat)).run Tryz.prog w = .ok () w' ∧ BytesAt b (l.set i u) c w' ∧ Keeps (fun k => k = b) w w' := by
  have hc := bytes_get h hi
  have hf : w.frozen? ⟨b, i, none⟩ = false := by
    have := h.1
    simp only [World.frozen?, h.2]
    simp; omega
  refine ⟨w.setCell ⟨b, i, none⟩ (.int .u8 u.toNat), ?_, ⟨by simpa using h.1, ?_⟩, (Keeps.refl (fun k => k = b) w).setCell _ _ (fun _ => rfl)⟩
  · obtain ⟨i0, hi0, hz0, hz1, hz2⟩ := info_parts infoByte
    unfold storeVar
    simp [sizeOf, typeInfo, hi0, hz1, storeCells, Addr.add, store, Sem.run, hc, hf, Value.cells]
  · rw [heap_set_same h.2]
    congr 2
    apply Array.ext'
    simp [Lib.byteCells, List.set_append, hi, List.map_set]
theorem run_toBytes (l : List UInt8) (w : World) : ∃ c w', (convert 9 87 (.string ⟨l.toArray⟩)).run Tryz.prog w = .ok (.slice (some ⟨w.heap.size, 0, none⟩) l.length c) w' ∧ BytesAt w.heap.size l c w' ∧ Adds w w' := by
  have h1 : Tryz.prog.underlying 9 = some .string := Tryz.underlying9
  have h2 := Tryz.underlying87
  have h3 := Tryz.underlying5
  have hs : (⟨l.toArray⟩ : ByteArray).size = l.length := rfl
  simp only [convert, Sem.run_bind, run_underlying h1, run_underlying h2, run_underlying h3, Result.andThen_ok, Conv.stringToBytes]
  simp only [choose, Sem.run, Question.forced, Bool.false_eq_true, if_false, Question.cut]
  generalize hcap : (⟨l.toArray⟩ : ByteArray).size + _ % _ = cap
  have hle : l.length ≤ cap := by rw [← hcap, hs]; omega
  have hcs : (Array.map (fun b : UInt8 => Value.int .u8 b.toNat) l.toArray ++ Array.replicate (cap - (⟨l.toArray⟩ : ByteArray).size) (Value.int .u8 0)) = (Lib.byteCells l ++ List.replicate (cap - l.length) (Value.int .u8 0)).toArray := by
    apply Array.ext'
    simp [Lib.byteCells, hs]
  simp only [Result.andThen_ok, hcs]
  have hsz : (Lib.byteCells l ++ List.replicate (cap - l.length) (Value.int .u8 0)).toArray.size = cap := by
    simp [Lib.byteCells]; omega
  generalize hC : (Lib.byteCells l ++ List.replicate (cap - l.length) (Value.int .u8 0)).toArray = cs at hsz ⊢
  have hnew : (w.drew.alloc (.cells cs 5)).heap[w.heap.size]? = some (.cells cs 5 (0, 0)) := heap_alloc_new' w.drew _
  refine ⟨cap, (w.drew.alloc (.cells cs 5)).freeze ⟨w.heap.size, cap, none⟩ 1, ?_, ⟨hle, ?_⟩, ?_⟩
  · have hr : (newRow 5 cs).run Tryz.prog w.drew = .ok ⟨w.heap.size, 0, none⟩ (w.drew.alloc (.cells cs 5)) := by
      simp [newRow, newObj, Sem.run]; rfl
    have hm : (markStringish ⟨w.heap.size, 0, none⟩).run Tryz.prog (w.drew.alloc (.cells cs 5)) = .ok () ((w.drew.alloc (.cells cs 5)).freeze ⟨w.heap.size, cap, none⟩ 1) := by
      have hsh : (w.drew.alloc (.cells cs 5)).shape? w.heap.size = some (5, cap) := by simp only [World.shape?, hnew, hsz]
      simp [markStringish, shape, freeze, Sem.run, hsh]
    show ((Sem.run Tryz.prog (newRow 5 cs) w.drew).andThen _) = _
    rw [hr]
    simp only [Result.andThen_ok, hm, Sem.run_pure]
    rfl
  · unfold World.freeze
    rw [if_neg (by decide)]
    show ((w.drew.alloc (.cells cs 5)).heap.modify w.heap.size _)[w.heap.size]? = _
    rw [Array.getElem?_modify, if_pos rfl, hnew]
    simp [hC]
  · exact ((Keeps.refl (fun _ => False) w).drew.alloc _).freeze _ _ (fun h => absurd h (by simp))
end

theorem run_toBytesB (l : List UInt8) (w : World) : ∃ b c w', w.heap.size ≤ b ∧ (convert 9 87 (.string ⟨l.toArray⟩)).run Tryz.prog w = .ok (.slice (some ⟨b, 0, none⟩) l.length c) w' ∧ BytesAt b l c w' ∧ Adds w w' := by
  obtain ⟨c, w', h1, h2, h3⟩ := run_toBytes l w
  exact ⟨_, c, w', Nat.le_refl _, h1, h2, h3⟩
theorem foldl_push : ∀ (l : List UInt8) (s : ByteArray), ((l.map fun c => (c.toNat : Int)).foldl (fun r n => r.push (UInt8.ofNat n.toNat)) s) = s ++ ⟨l.toArray⟩
  | [], s => by
    apply ByteArray.ext; apply Array.ext'; simp
  | c :: l, s => by
    simp only [List.map_cons, List.foldl_cons, foldl_push l]
    apply ByteArray.ext; apply Array.ext'
    simp
theorem run_ofBytes {P : Program} {w : World} {T S E b n c : Nat} {cs : Array Value} {fz : Nat × Nat} {l : List UInt8} (hT : P.underlying T = some (.slice E)) (hE : P.underlying E = some (.int .u8)) (hS : P.underlying S = some .string) (hb : w.heap[b]? = some (.cells cs E fz)) (hl : l.length = n) (hcs : cs.toList.take n = Lib.byteCells l) :
    (convert T S (.slice (some ⟨b, 0, none⟩) n c)).run P w = .ok (.string ⟨l.toArray⟩) w := by
  rw [run_convert_bytes_string w T S E _ _ _ hT hE hS]
  have hlen : n ≤ cs.size := by
    have := congrArg List.length hcs
    simp [Lib.byteCells] at this
    omega
  have h := run_loadCellsFrom (P := P) (i := 0) hb n 0 #[] (by omega)
  simp only [Nat.zero_add, List.drop_zero, hcs] at h
  rw [run_bytesToString w _ n c (l.map fun c => (c.toNat : Int)) (by
    unfold loadCells
    rw [h]
    congr 1
    apply Array.ext'
    simp [Lib.byteCells])]
  rw [foldl_push]
  congr 2
theorem bytes_str {w : World} {b c : Nat} {l : List UInt8} (h : BytesAt b l c w) : (convert 87 9 (.slice (some ⟨b, 0, none⟩) l.length c)).run Tryz.prog w = .ok (.string ⟨l.toArray⟩) w :=
  run_ofBytes Tryz.underlying87 Tryz.underlying5 Tryz.underlying9 h.2 rfl (by simp [Lib.byteCells])
theorem bytes_strN {w : World} {b c n : Nat} {l : List UInt8} (h : BytesAt b l c w) (hn : l.length = n) : (convert 87 9 (.slice (some ⟨b, 0, none⟩) n c)).run Tryz.prog w = .ok (.string ⟨l.toArray⟩) w := hn ▸ bytes_str h
section
variable {P : Program} {ops : Array Oper} {n : Md} {Q : Exit → Act → World → Prop} {rest : List Oper} {fr : Fr} {w : World} {C : World → Prop} {Z : Act → Prop}
theorem WL.conv {T T2 : TypeId} {x : Operand} {d : Nat} {vx v : Value} {w' : World} {ty : TypeId} {ps : String} {af : Array Edge} {g : Option (Nat × Bool)} (hc : (convert T T2 vx).run P w = .ok v w')
    (hw : want ops fr ⟨some d, .convert T T2 x, ty, ps, af, g⟩ = some true := by kernel_rfl) (hx : ev fr x = some vx := by kernel_rfl) (hn : Nat.blt d n.n = true := by kernel_rfl)
    (k : WL P ops n Q rest ((d, v) :: fr) w') : WL P ops n Q (⟨some d, .convert T T2 x, ty, ps, af, g⟩ :: rest) fr w :=
  WL.wanted hw fun a ha K hK => by
    unfold Oper.wp
    simp only [execOp, ha.eval hx, Sem.run_bind, hc, Sem.run_pure, Result.andThen_ok, Oper.upon_value]
    exact hK _ _ (k _ (ha.put hn _))
theorem WL.cut {T : TypeId} {x : Operand} {lo hi mx : Option Operand} {lo' hi' mx' : Option Value} {d : Nat} {vx v : Value} {ty : TypeId} {ps : String} {af : Array Edge} {g : Option (Nat × Bool)} (hr : (Instr.sliceAt T vx lo' hi' mx').run P w = .ok v w)
    (hw : want ops fr ⟨some d, .slice T x lo hi mx, ty, ps, af, g⟩ = some true := by kernel_rfl) (hx : ev fr x = some vx := by kernel_rfl) (hlo : oev fr lo = some lo' := by kernel_rfl) (hhi : oev fr hi = some hi' := by kernel_rfl) (hmx : oev fr mx = some mx' := by kernel_rfl) (hn : Nat.blt d n.n = true := by kernel_rfl)
    (k : WL P ops n Q rest ((d, v) :: fr) w) : WL P ops n Q (⟨some d, .slice T x lo hi mx, ty, ps, af, g⟩ :: rest) fr w :=
  WL.wanted hw fun a ha K hK => by
    unfold Oper.wp
    simp only [execOp, ha.eval hx, ha.oeval hlo, ha.oeval hhi, ha.oeval hmx, Sem.run_bind, hr, Sem.run_pure, Result.andThen_ok, Oper.upon_value]
    exact hK _ _ (k _ (ha.put hn _))
theorem WQ.cut {T : TypeId} {x : Operand} {lo hi mx : Option Operand} {lo' hi' mx' : Option Value} {d : Nat} {vx v : Value} {ty : TypeId} {ps : String} {af : Array Edge} {g : Option (Nat × Bool)} (hr : ∀ w, (Instr.sliceAt T vx lo' hi' mx').run P w = .ok v w)
    (hw : want ops fr ⟨some d, .slice T x lo hi mx, ty, ps, af, g⟩ = some true := by kernel_rfl) (hx : ev fr x = some vx := by kernel_rfl) (hlo : oev fr lo = some lo' := by kernel_rfl) (hhi : oev fr hi = some hi' := by kernel_rfl) (hmx : oev fr mx = some mx' := by kernel_rfl) (hn : Nat.blt d n.n = true := by kernel_rfl)
    (k : WQ P ops n C Z rest ((d, v) :: fr)) : WQ P ops n C Z (⟨some d, .slice T x lo hi mx, ty, ps, af, g⟩ :: rest) fr :=
  WQ.wanted hw fun a ha K hK => ⟨v, fun w hC => by
    unfold Oper.quietAt
    simp only [execOp, ha.eval hx, ha.oeval hlo, ha.oeval hhi, ha.oeval hmx, Sem.run_bind, hr w, Sem.run_pure, Result.andThen_ok, Oper.quietUpon, and_self], hK _ (k _ (ha.put hn _))⟩
theorem of_bne_false {a b : Int} (h : (a != b) = false) : a = b := by simpa using h
theorem byte_of {x : Int} (h0 : 0 ≤ x) (h1 : x ≤ 255) : ∃ u : UInt8, x = (u.toNat : Int) := ⟨UInt8.ofNat x.toNat, by rw [UInt8.toNat_ofNat']; omega⟩
theorem bits_u8 (op : BinOp) (a b : Int) : ∃ u : UInt8, bits op .u8 a b = (u.toNat : Int) := by
  refine byte_of ?_ ?_ <;> (unfold bits; rw [IntKind.wrap_u8]; omega)
theorem rem_run {T : TypeId} {k : IntKind} {x y : Int} (h : y ≠ 0) : (binOp .rem T (.int k x) (.int k y)).run P w = .ok (.int k (x.tmod y)) w := by
  simp [binOp, Op.intDiv, h]
theorem quo_run {T : TypeId} {k : IntKind} {x y : Int} (h : y ≠ 0) : (binOp .quo T (.int k x) (.int k y)).run P w = .ok (.int k (k.wrap (x.tdiv y))) w := by
  simp [binOp, Op.intDiv, h]
theorem bits_run {T : TypeId} {k : IntKind} {x y : Int} {op : BinOp} (h : op = .and ∨ op = .or ∨ op = .xor ∨ op = .andNot) : (binOp op T (.int k x) (.int k y)).run P w = .ok (.int k (bits op k x y)) w := by
  rcases h with rfl | rfl | rfl | rfl <;> simp [binOp, Op.intBits, bits]
theorem shr_run {T : TypeId} {k yk : IntKind} {x y : Int} {c : Int} (h0 : 0 ≤ y) (hb : y.toNat ≤ k.bits) (hc : (2 : Int) ^ y.toNat = c) : (binOp .shr T (.int k x) (.int yk y)).run P w = .ok (.int k (x / c)) w := by
  have hp : (0 : Int) ≤ 2 ^ y.toNat := Int.pow_nonneg (by decide)
  simp only [binOp, Op.shift, if_neg (Int.not_lt.2 h0), Nat.min_eq_left hb, Sem.run_pure, ← hc, Int.fdiv_eq_ediv_of_nonneg _ hp]
theorem shl_run {T : TypeId} {k yk : IntKind} {x y : Int} {c : Int} (h0 : 0 ≤ y) (hb : y.toNat ≤ k.bits) (hc : (2 : Int) ^ y.toNat = c) : (binOp .shl T (.int k x) (.int yk y)).run P w = .ok (.int k (k.wrap (x * c))) w := by
  simp only [binOp, Op.shift, if_neg (Int.not_lt.2 h0), Nat.min_eq_left hb, Sem.run_pure, hc]
theorem tmod_rng (x y : Int) (h : 0 < y) : -y < x.tmod y ∧ x.tmod y < y ∧ (0 ≤ x → 0 ≤ x.tmod y) := by
  have h2 := Int.tmod_lt_of_pos x h
  have h3 := Int.lt_tmod_of_pos x h
  exact ⟨h3, h2, fun h0 => Int.tmod_nonneg y h0⟩
/-- A text's part. -/
theorem run_cut {T : TypeId} {l : List UInt8} {lo hi : Option Value} {a b : Nat} (hT : P.underlying T = some .string) (hlo : lo = none ∧ a = 0 ∨ ∃ k i, lo = some (.int k i) ∧ i = (a : Int)) (hhi : hi = none ∧ b = l.length ∨ ∃ k i, hi = some (.int k i) ∧ i = (b : Int)) (hab : a ≤ b) (hbl : b ≤ l.length) :
    (Instr.sliceAt T (.string ⟨l.toArray⟩) lo hi none).run P w = .ok (.string ⟨((l.take b).drop a).toArray⟩) w := by
  have hs : (⟨l.toArray⟩ : ByteArray).size = l.length := rfl
  have hcut := str_cut l a b
  rcases hlo with ⟨rfl, rfl⟩ | ⟨k, i, rfl, rfl⟩ <;> rcases hhi with ⟨rfl, rfl⟩ | ⟨k', i', rfl, rfl⟩ <;>
    simp [Instr.sliceAt, Instr.slice, run_underlying hT, Instr.sliceBounds, Instr.sliceBound, asIntOf, hs, hab, hbl, hcut]
  all_goals (try (rw [← hcut])) <;> (try rfl)
end

end Go.Proofs.YtdoenmokahbeaaaGreatDoor
