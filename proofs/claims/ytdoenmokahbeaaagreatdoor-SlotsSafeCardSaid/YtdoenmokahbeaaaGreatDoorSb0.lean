
/- Rows of bytes: as lists; to texts; made; copied into. -/
import Derived.Test.YtdoenmokahbeaaaGreatDoorSx8
import Derived.Test.YtdoenmokahbeaaaGreatDoorSg
namespace Go.Proofs.YtdoenmokahbeaaaGreatDoor
open Go.RowKit
set_option linter.unusedVariables false
set_option linter.unusedSimpArgs false

abbrev u8C (c : UInt8) : List Value := [.int .u8 (c.toNat : Int)]
theorem ekU8 : EK u8C 1 5 := EK.of (z := .int .u8 0) (bt := 1) (fun _ => rfl) (fun _ => rfl) (by decide) (by kernel_rfl) rfl (by decide)
theorem u8C_flat (l : List UInt8) : l.flatMap u8C = Lib.byteCells l := by
  induction l with
  | nil => rfl
  | cons c l ih => rw [List.flatMap_cons, ih]; rfl
theorem SlAt.cellsB {A : Option Addr} {l : List UInt8} {w : World} (h : SlAt u8C 1 5 A l w) : l = [] ∨ ∃ b o cs E' fz, A = some ⟨b, o, none⟩ ∧ w.heap[b]? = some (.cells cs E' fz) ∧ o + l.length ≤ cs.size ∧ (cs.toList.drop o).take l.length = Lib.byteCells l := by
  rcases h with h | ⟨b, o, cs, E', fz, hA, hb, hs, hc⟩
  · exact .inl h
  · refine .inr ⟨b, o, cs, E', fz, hA, hb, by omega, ?_⟩
    apply List.ext_getElem?
    intro i
    by_cases hi : i < l.length
    · have h1 := hc i l[i] (List.getElem?_eq_getElem hi)
      have h2 := congrArg (fun x : List Value => x[0]?) h1
      simp only [List.getElem?_take, List.getElem?_drop, Lib.byteCells] at h2 ⊢
      rw [if_pos hi, List.getElem?_map, List.getElem?_eq_getElem hi]
      simpa using h2
    · rw [List.getElem?_eq_none (by rw [List.length_take]; omega), List.getElem?_eq_none (by simp [Lib.byteCells]; omega)]
theorem ofBytesSl {A : Option Addr} {l : List UInt8} {n c : Nat} {w : World} (h : SlAt u8C 1 5 A l w) (hn : l.length = n) : (convert 87 9 (.slice A n c)).run Tryz.prog w = .ok (.string ⟨l.toArray⟩) w := by
  subst hn
  rw [run_convert_bytes_string w _ _ _ _ _ _ Tryz.underlying87 Tryz.underlying5 Tryz.underlying9]
  rcases h.cellsB with rfl | ⟨b, o, cs, E', fz, rfl, hb, hs, hc⟩
  · cases A with
    | none => rfl
    | some a =>
      show (Conv.bytesToString (.slice (some a) 0 c)).run Tryz.prog w = _
      rw [run_bytesToString w a 0 c [] (by simp [loadCells, loadCellsFrom, Sem.run_pure])]
      rfl
  · have h := run_loadCellsFrom (P := Tryz.prog) (i := o) hb l.length 0 #[] (by omega)
    simp only [Nat.add_zero, hc] at h
    rw [run_bytesToString w _ l.length c (l.map fun c => (c.toNat : Int)) (by
      unfold loadCells
      rw [h]
      congr 1
      apply Array.ext'
      simp [Lib.byteCells])]
    rw [foldl_push]
    congr 2
theorem OwAt.made {b N : Nat} {w : World} (hb : w.heap[b]? = some (.cells (List.replicate N (Value.int .u8 0)).toArray 5 (0, 0))) (hN : N ≤ 1000000000) : OwAt u8C 1 5 (some ⟨b, 0, none⟩) N (List.replicate N 0) w := by
  have hf : (List.replicate N (0 : UInt8)).flatMap u8C = List.replicate N (Value.int .u8 0) := by
    rw [u8C_flat]; simp [Lib.byteCells]
  refine ⟨by rw [hf]; simp, .inr ⟨b, N, _, by simp, Nat.zero_le _, hb, by simp, by unfold maxLen; omega, by simp, ?_⟩⟩
  rw [hf]; simp
theorem run_copyB {b cap : Nat} {l s : List UInt8} {ty : TypeId} {w : World} (h : OwAt u8C 1 5 (some ⟨b, 0, none⟩) cap l w) :
    ∃ w', (Builtin.copy_ #[87, 9] ty #[.slice (some ⟨b, 0, none⟩) l.length cap, .string ⟨s.toArray⟩]).run Tryz.prog w = .ok (.int .i64 (min s.length l.length : Nat)) w' ∧
      OwAt u8C 1 5 (some ⟨b, 0, none⟩) cap (s.take l.length ++ l.drop s.length) w' ∧ Keeps (fun k => k = b) w w' := by
  rcases h.block with ⟨h0, _⟩ | ⟨g, cur, hA, hg, h2, h3, h4, h5⟩
  · cases h0
  · cases hA
    rw [u8C_flat, Nat.mul_one] at h5
    rw [Nat.mul_one] at h4
    have hT : (Lib.byteCells (s.take l.length)).length = min s.length l.length := by simp [Lib.byteCells, Nat.min_comm]
    obtain ⟨w', hr, hb', hk⟩ := run_storeCells (P := Tryz.prog) (b := b) (i := 0) (Lib.byteCells (s.take l.length)) 0 w cur hg (by rw [hT]; omega) (List.all_eq_true.2 fun u hu => by simp only [Lib.byteCells, List.mem_map] at hu; obtain ⟨x, _, rfl⟩ := hu; rfl)
    refine ⟨w', ?_, ?_, hk⟩
    · have hsz : (⟨s.toArray⟩ : ByteArray).size = s.length := rfl
      have hmin : Nat.min s.length l.length = min s.length l.length := rfl
      have htk : List.take (min s.length l.length) (List.map (fun c : UInt8 => Value.int IntKind.u8 (c.toNat : Int)) s) = Lib.byteCells (s.take l.length) := by
        rw [← List.map_take]; unfold Lib.byteCells; congr 1
        rw [Nat.min_comm, ← List.take_take, List.take_length]
      obtain ⟨i0, hi, hz0, hz1, hz2⟩ := info_parts infoByte
      simp [Builtin.copy_, run_underlying Tryz.underlying87, Builtin.lenOf, Builtin.firstCells, sizeOf, typeInfo, hi, hz1, hsz, hmin]
      rw [htk, hr]
      simp [Result.andThen, goInt]
    · have hl : (s.take l.length ++ l.drop s.length).length = l.length := by simp; omega
      refine ⟨by rw [u8C_flat]; simp [Lib.byteCells], .inr ⟨b, cap, _, rfl, Nat.zero_le _, hb', by rw [hl]; exact h2, h3, ?_, ?_⟩⟩
      · simp only [repl, List.size_toArray, List.length_append, List.length_take, List.length_drop, Array.length_toList, hT]; omega
      · rw [hl, u8C_flat]
        simp only [repl, Nat.zero_add, List.take_zero, List.nil_append, hT, Nat.mul_one]
        rw [List.take_append, hT, List.take_of_length_le (by rw [hT]; omega)]
        have e1 : (cur.toList.drop (min s.length l.length)).take (l.length - min s.length l.length) = Lib.byteCells (l.drop s.length) := by
          rw [← List.drop_take, h5]
          unfold Lib.byteCells
          rw [← List.map_drop]; congr 1
          by_cases hc : s.length ≤ l.length
          · rw [Nat.min_eq_left hc]
          · rw [List.drop_of_length_le (by omega), List.drop_of_length_le (by omega)]
        rw [e1]; simp [Lib.byteCells]
section
variable {P : Program} {ops : Array Oper} {n : Md} {Q : Exit → Act → World → Prop} {rest : List Oper} {fr : Fr} {w : World}
theorem WL.copyB {T1 T2 : TypeId} {x y : Operand} {vx vy v : Value} {d : Nat} {w' : World} {ty : TypeId} {ps : String} {af : Array Edge} {g : Option (Nat × Bool)} (hr : (Builtin.copy_ #[T1, T2] ty #[vx, vy]).run P w = .ok v w')
    (hw : want ops fr ⟨some d, .call ⟨.builtin .copy, #[x, y], #[T1, T2]⟩, ty, ps, af, g⟩ = some true := by kernel_rfl) (hx : ev fr x = some vx := by kernel_rfl) (hy : ev fr y = some vy := by kernel_rfl) (hn : Nat.blt d n.n = true := by kernel_rfl)
    (k : WL P ops n Q rest ((d, v) :: fr) w') : WL P ops n Q (⟨some d, .call ⟨.builtin .copy, #[x, y], #[T1, T2]⟩, ty, ps, af, g⟩ :: rest) fr w :=
  WL.wanted hw fun a ha K hK => by
    unfold Oper.wp
    simp only [execOp, resolve, invoke, builtin, List.map_toArray, List.map_cons, List.map_nil, ha.eval hx, ha.eval hy, Sem.run_bind, Sem.run_pure, Result.andThen_ok, hr, Oper.upon_value]
    exact hK _ _ (k _ (ha.put hn _))
end

end Go.Proofs.YtdoenmokahbeaaaGreatDoor
