
/- A slice of the call's own: one element set, the tail cleared. -/
import Derived.Test.YtdoenmokahbeaaaGreatDoorSx7
namespace Go.Proofs.YtdoenmokahbeaaaGreatDoor
open Go.RowKit
set_option linter.unusedVariables false
set_option linter.unusedSimpArgs false

section
variable {α : Type} {cl : α → List Value} {m : Nat} {E : TypeId} {A : Option Addr} {cap : Nat} {xs : List α} {w w' : World}
theorem EK.flat (hk : EK cl m E) : ∀ l : List α, (l.flatMap cl).length = l.length * m
  | [] => by simp
  | x :: l => by simp [List.flatMap_cons, hk.len, EK.flat hk l, Nat.add_mul, Nat.add_comm]
theorem oneC_of (hone : ∀ x, ∀ u ∈ cl x, u.oneCell' = true) (x : α) (h : ∀ u : Value, u.oneCell' = true → oneC u = true) : (cl x).all oneC = true := List.all_eq_true.2 fun u hu => h u (hone x u hu)
theorem oneC_of' (u : Value) (h : u.oneCell' = true) : oneC u = true := by cases u <;> simp_all [oneC, Value.oneCell']
theorem OwAt.set {T : TypeId} (hk : EK cl m E) (h : OwAt cl m E A cap xs w) {b o : Nat} (hA : A = some ⟨b, o, none⟩) {i : Int} (h0 : 0 ≤ i) (h1 : i < xs.length) (x : α) (hT : (Tryz.prog.info? T).map (·.size) = some m) :
    ∃ w', (storeVar T ⟨b, o + i.toNat * m, none⟩ (.agg (cl x).toArray)).run Tryz.prog w = .ok () w' ∧ OwAt cl m E A cap (xs.set i.toNat x) w' ∧ Keeps (fun k => blk A = some k) w w' := by
  rcases h.block with ⟨rfl, _⟩ | ⟨g, cur, rfl, hg, h2, h3, h4, h5⟩
  · cases hA
  · cases hA
    have hi : i.toNat < xs.length := by omega
    have hle : (i.toNat + 1) * m ≤ xs.length * m := Nat.mul_le_mul_right m hi
    rw [Nat.add_mul, Nat.one_mul] at hle
    have hle2 : xs.length * m ≤ cap * m := Nat.mul_le_mul_right m h2
    obtain ⟨w', hr, hb', hkp⟩ := run_storeCells (P := Tryz.prog) (i := 0 + i.toNat * m) (cl x) 0 w cur hg (by rw [hk.len]; omega) (oneC_of hk.one x oneC_of')
    obtain ⟨j, hj, hjs⟩ := Option.map_eq_some_iff.1 hT
    refine ⟨w', ?_, ⟨by rw [EK.flat hk, List.length_set], .inr ⟨b, cap, _, by rw [List.length_set], Nat.zero_le _, hb', by rw [List.length_set]; exact h2, h3, ?_, ?_⟩⟩, hkp.mono fun k _ e => by simp [blk, e]⟩
    · have hsz : (Value.agg (cl x).toArray).cells.size = m := by simp [Value.cells, hk.len]
      unfold storeVar
      simp [sizeOf, typeInfo, hj, hjs, Value.cells, hk.len, hr]
      simpa using hr
    · unfold repl
      simp only [List.size_toArray, List.length_append, List.length_take, List.length_drop, hk.len, Array.length_toList]
      omega
    · unfold repl
      have hx : xs = xs.take i.toNat ++ xs[i.toNat] :: xs.drop (i.toNat + 1) := by rw [← List.drop_eq_getElem_cons hi, List.take_append_drop]
      have hlt : ((xs.take i.toNat).flatMap cl).length = i.toNat * m := by rw [EK.flat hk]; simp [Nat.min_eq_left (Nat.le_of_lt hi)]
      have ht : cur.toList.take (i.toNat * m) = (xs.take i.toNat).flatMap cl := by
        have : cur.toList.take (i.toNat * m) = (cur.toList.take (xs.length * m)).take (i.toNat * m) := by rw [List.take_take, Nat.min_eq_left (by omega)]
        rw [this, h5]
        conv => lhs; rw [hx, List.flatMap_append]
        rw [← hlt, List.take_left]
      have hd : (cur.toList.drop (i.toNat * m + m)).take (xs.length * m - (i.toNat * m + m)) = (xs.drop (i.toNat + 1)).flatMap cl := by
        rw [← List.drop_take, h5]
        conv => lhs; rw [hx, List.flatMap_append, List.flatMap_cons, ← List.append_assoc]
        have : ((xs.take i.toNat).flatMap cl ++ cl xs[i.toNat]).length = i.toNat * m + m := by rw [List.length_append, hlt, hk.len]
        rw [← this, List.drop_left]
      have hs : xs.set i.toNat x = xs.take i.toNat ++ x :: xs.drop (i.toNat + 1) := by rw [List.set_eq_take_append_cons_drop, if_pos hi]
      rw [List.length_set, hs, List.flatMap_append, List.flatMap_cons, hk.len]
      simp only [Nat.zero_add, Nat.add_zero]
      rw [ht, List.take_append, List.take_of_length_le (show ((xs.take i.toNat).flatMap cl).length ≤ xs.length * m by rw [hlt]; omega), hlt, List.take_append, List.take_of_length_le (show (cl x).length ≤ xs.length * m - i.toNat * m by rw [hk.len]; omega), hk.len, ← hd, Nat.sub_sub]
theorem OwAt.cutO (h : OwAt cl m E A cap xs w) (hk : EK cl m E) {n : Nat} (hn : n ≤ xs.length) : OwAt cl m E A cap (xs.take n) w := by
  rcases h.block with ⟨rfl, rfl, rfl⟩ | ⟨g, cur, rfl, hg, h2, h3, h4, h5⟩
  · rw [List.take_nil]; exact OwAt.nil
  · have hle : n * m ≤ xs.length * m := Nat.mul_le_mul_right m hn
    have hl : (xs.take n).length = n := by simp [hn]
    refine ⟨by rw [EK.flat hk], .inr ⟨g, cap, cur, rfl, Nat.zero_le _, hg, by rw [hl]; omega, h3, h4, ?_⟩⟩
    have hlt : ((xs.take n).flatMap cl).length = n * m := by rw [EK.flat hk, hl]
    have hx : xs.flatMap cl = (xs.take n).flatMap cl ++ (xs.drop n).flatMap cl := by rw [← List.flatMap_append, List.take_append_drop]
    have : cur.toList.take (n * m) = (cur.toList.take (xs.length * m)).take (n * m) := by rw [List.take_take, Nat.min_eq_left hle]
    rw [hl, this, h5, hx, ← hlt, List.take_left]
/-- builtin clear of the tail -/
theorem OwAt.clear {T ty : TypeId} (hk : EK cl m E) (hT : Tryz.prog.underlying T = some (.slice E)) (h : OwAt cl m E A cap xs w) {i : Nat} (hi : i ≤ xs.length) {z : Value} (hz1 : z.cells.toList.all oneC = true) (hz2 : (Tryz.prog.info? E).map (·.zero) = some (some z)) (hz3 : z.cells.size = m) :
    ∃ w', (Builtin.clear_ #[T] ty #[.slice (cutA A cap i m) (xs.length - i) (cap - i)]).run Tryz.prog w = .ok (.tuple #[]) w' ∧ OwAt cl m E A cap (xs.take i) w' ∧ Keeps (fun k => blk A = some k) w w' := by
  by_cases hn : xs.length - i = 0
  · refine ⟨w, ?_, h.cutO hk hi, Keeps.refl _ _⟩
    rw [hn]
    cases hA : cutA A cap i m <;> simp [Builtin.clear_, run_underlying hT]
  · rcases h.block with ⟨rfl, rfl, rfl⟩ | ⟨g, cur, rfl, hg, h2, h3, h4, h5⟩
    · simp at hn
    · have hne : ¬ cap = i := by omega
      have hA : cutA (some ⟨g, 0, none⟩) cap i m = some ⟨g, 0 + i * m, none⟩ := by unfold cutA; rw [if_neg hne]; simp [addr_add]
      rw [hA]
      obtain ⟨inf, hinf, hzz⟩ := Option.map_eq_some_iff.1 hz2
      have hall : ∀ k : Nat, (Builtin.zeroCells z.cells k).toList.all oneC = true := fun k => by
        refine List.all_eq_true.2 fun u hu => ?_
        have : u ∈ z.cells.toList := by
          unfold Builtin.zeroCells at hu
          simp at hu
          simp
          obtain ⟨q, hq, rfl⟩ := hu
          rw [getElem!_pos z.cells _ (Nat.mod_lt _ (by have := hk.pos; omega))]
          exact Array.getElem_mem _
        exact List.all_eq_true.1 hz1 u this
      have hle : xs.length * m ≤ cap * m := Nat.mul_le_mul_right m h2
      have hsz : (Builtin.zeroCells z.cells (xs.length - i)).toList.length = (xs.length - i) * m := by simp [size_zeroCells, hz3]
      have hsum : i * m + (xs.length - i) * m = xs.length * m := by rw [← Nat.add_mul, Nat.add_sub_cancel' hi]
      obtain ⟨w', hr, hb', hkp⟩ := run_storeCells (P := Tryz.prog) (i := 0 + i * m) (Builtin.zeroCells z.cells (xs.length - i)).toList 0 w cur hg (by rw [hsz]; omega) (hall _)
      obtain ⟨nn, hnn⟩ : ∃ nn, xs.length - i = nn + 1 := ⟨xs.length - i - 1, by omega⟩
      have hl : (xs.take i).length = i := by simp [hi]
      refine ⟨w', ?_, ⟨by rw [EK.flat hk], .inr ⟨g, cap, _, rfl, Nat.zero_le _, hb', by rw [hl]; omega, h3, ?_, ?_⟩⟩, hkp.mono fun k _ e => by simp [blk, e]⟩
      · rw [hnn] at hr ⊢
        simp only [Nat.zero_add] at hr
        simp [Builtin.clear_, run_underlying hT, zeroValue, typeInfo, hinf, hzz, hr]
      · unfold repl
        simp only [List.size_toArray, List.length_append, List.length_take, List.length_drop, hsz, Array.length_toList]
        omega
      · unfold repl
        have hlt : ((xs.take i).flatMap cl).length = i * m := by rw [EK.flat hk, hl]
        have him : i * m ≤ xs.length * m := Nat.mul_le_mul_right m hi
        have hx : xs.flatMap cl = (xs.take i).flatMap cl ++ (xs.drop i).flatMap cl := by rw [← List.flatMap_append, List.take_append_drop]
        have ht : cur.toList.take (i * m) = (xs.take i).flatMap cl := by
          have : cur.toList.take (i * m) = (cur.toList.take (xs.length * m)).take (i * m) := by rw [List.take_take, Nat.min_eq_left him]
          rw [this, h5, hx, ← hlt, List.take_left]
        simp only [Nat.zero_add, Nat.add_zero]
        rw [hl, ht, ← hlt, List.take_left]
end
section
variable {P : Program} {ops : Array Oper} {n : Md} {Q : Exit → Act → World → Prop} {rest : List Oper} {fr : Fr} {w : World}
theorem WL.clear {T : TypeId} {x : Operand} {vx : Value} {w' : World} {ty : TypeId} {ps : String} {af : Array Edge} {g : Option (Nat × Bool)} (hr : (Builtin.clear_ #[T] ty #[vx]).run P w = .ok (.tuple #[]) w')
    (hw : want ops fr ⟨none, .call ⟨.builtin .clear, #[x], #[T]⟩, ty, ps, af, g⟩ = some true := by kernel_rfl) (hx : ev fr x = some vx := by kernel_rfl)
    (k : WL P ops n Q rest fr w') : WL P ops n Q (⟨none, .call ⟨.builtin .clear, #[x], #[T]⟩, ty, ps, af, g⟩ :: rest) fr w :=
  WL.wanted hw fun a ha K hK => by
    unfold Oper.wp
    simp only [execOp, resolve, invoke, builtin, List.map_toArray, List.map_cons, List.map_nil, ha.eval hx, Sem.run_bind, Sem.run_pure, Result.andThen_ok, hr, Oper.upon_value]
    exact hK _ _ (k _ ha)
theorem shr_runV {T : TypeId} {k yk : IntKind} {x y : Int} (h0 : 0 ≤ y) (hb : y.toNat ≤ k.bits) : (binOp .shr T (.int k x) (.int yk y)).run P w = .ok (.int k (x / 2 ^ y.toNat)) w := by
  have hp : (0 : Int) ≤ 2 ^ y.toNat := Int.pow_nonneg (by decide)
  simp only [binOp, Op.shift, if_neg (Int.not_lt.2 h0), Nat.min_eq_left hb, Sem.run_pure, Int.fdiv_eq_ediv_of_nonneg _ hp]
theorem bits_and1 (x : Int) : bits .and .i64 x 1 = 0 ∨ bits .and .i64 x 1 = 1 := by
  have h : (BitVec.ofInt 64 x &&& BitVec.ofInt 64 1).toNat = (BitVec.ofInt 64 x).toNat % 2 := by rw [BitVec.toNat_and, show (BitVec.ofInt 64 1).toNat = 1 from rfl, Nat.and_one_is_mod]
  have e : bits .and .i64 x 1 = IntKind.wrap .i64 ((BitVec.ofInt 64 x &&& BitVec.ofInt 64 1).toNat : Int) := rfl
  rw [e, h]
  rcases Nat.mod_two_eq_zero_or_one (BitVec.ofInt 64 x).toNat with h | h <;> rw [h]
  · left; rfl
  · right; rfl
theorem bits_and3 (x : Int) : 0 ≤ bits .and .i64 x 3 ∧ bits .and .i64 x 3 ≤ 3 := by
  have h : (BitVec.ofInt 64 x &&& BitVec.ofInt 64 3).toNat = (BitVec.ofInt 64 x).toNat % 4 := by rw [BitVec.toNat_and, show (BitVec.ofInt 64 3).toNat = 2 ^ 2 - 1 from rfl, Nat.and_two_pow_sub_one_eq_mod]
  have e : bits .and .i64 x 3 = IntKind.wrap .i64 ((BitVec.ofInt 64 x &&& BitVec.ofInt 64 3).toNat : Int) := rfl
  rw [e, h]
  have hl := Nat.mod_lt (BitVec.ofInt 64 x).toNat (show 0 < 4 by decide)
  rw [IntWalk.i64_in _ (by omega)]
  omega
end

end Go.Proofs.YtdoenmokahbeaaaGreatDoor
