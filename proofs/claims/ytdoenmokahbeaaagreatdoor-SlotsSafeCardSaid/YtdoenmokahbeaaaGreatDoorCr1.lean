
/- Arrays: an element's address, a text's byte; numbers by bits. -/
import Derived.Test.YtdoenmokahbeaaaGreatDoorSx7
import Derived.Test.YtdoenmokahbeaaaGreatDoorCr0
namespace Go.Proofs.YtdoenmokahbeaaaGreatDoor
open Go.RowKit
set_option linter.unusedVariables false
set_option linter.unusedSimpArgs false

theorem addr_mul (b o j : Nat) : (⟨b, o, none⟩ : Addr).add j = ⟨b, o + j, none⟩ := by
  unfold Addr.add; split <;> simp_all
section
variable {P : Program} {ops : Array Oper} {n : Md} {Q : Exit → Act → World → Prop} {rest : List Oper} {fr : Fr} {w : World} {C : World → Prop} {Z : Act → Prop}
theorem run_idxA {T E : TypeId} {N m b o : Nat} {kk : IntKind} {i : Int} (hT : P.underlying T = some (.array N E)) (hE : (P.info? E).map (·.size) = some m) (h0 : 0 ≤ i) (h1 : i < N) :
    (Instr.indexAt T (.pointer (some ⟨b, o, none⟩)) (.int kk i)).run P w = .ok (.pointer (some ⟨b, o + i.toNat * m, none⟩)) w := by
  obtain ⟨j, hj, hjs⟩ := Option.map_eq_some_iff.1 hE
  simp [Instr.indexAt, asIntOf, run_underlying hT, h0, h1, sizeOf, typeInfo, hj, hjs, addr_mul, Instr.sureAddr]
theorem WL.idxA {T E : TypeId} {N m b o d : Nat} {kk : IntKind} {i : Int} {x y : Operand} {ty : TypeId} {ps : String} {af : Array Edge} {g : Option (Nat × Bool)} (h0 : 0 ≤ i) (h1 : i < N) (hT : P.underlying T = some (.array N E) := by kernel_rfl) (hE : (P.info? E).map (·.size) = some m := by kernel_rfl)
    (hw : want ops fr ⟨some d, .indexAddr T x y, ty, ps, af, g⟩ = some true := by kernel_rfl) (hx : ev fr x = some (.pointer (some ⟨b, o, none⟩)) := by kernel_rfl) (hy : ev fr y = some (.int kk i) := by kernel_rfl) (hn : Nat.blt d n.n = true := by kernel_rfl)
    (k : WL P ops n Q rest ((d, .pointer (some ⟨b, o + i.toNat * m, none⟩)) :: fr) w) : WL P ops n Q (⟨some d, .indexAddr T x y, ty, ps, af, g⟩ :: rest) fr w :=
  WL.wanted hw fun a ha K hK => by
    unfold Oper.wp
    simp only [execOp, ha.eval hx, ha.eval hy, Sem.run_bind, run_idxA hT hE h0 h1, Result.andThen_ok, Sem.run_pure, Oper.upon_value]
    exact hK _ _ (k _ (ha.put hn _))
theorem WQ.idxA {T E : TypeId} {N m b o d : Nat} {kk : IntKind} {i : Int} {x y : Operand} {ty : TypeId} {ps : String} {af : Array Edge} {g : Option (Nat × Bool)} (h0 : 0 ≤ i) (h1 : i < N) (hT : P.underlying T = some (.array N E) := by kernel_rfl) (hE : (P.info? E).map (·.size) = some m := by kernel_rfl)
    (hw : want ops fr ⟨some d, .indexAddr T x y, ty, ps, af, g⟩ = some true := by kernel_rfl) (hx : ev fr x = some (.pointer (some ⟨b, o, none⟩)) := by kernel_rfl) (hy : ev fr y = some (.int kk i) := by kernel_rfl) (hn : Nat.blt d n.n = true := by kernel_rfl)
    (k : WQ P ops n C Z rest ((d, .pointer (some ⟨b, o + i.toNat * m, none⟩)) :: fr)) : WQ P ops n C Z (⟨some d, .indexAddr T x y, ty, ps, af, g⟩ :: rest) fr :=
  WQ.wanted hw fun a ha K hK => ⟨_, fun w _ => by
    unfold Oper.quietAt
    simp only [execOp, ha.eval hx, ha.eval hy, Sem.run_bind, run_idxA hT hE h0 h1, Result.andThen_ok, Sem.run_pure, Oper.quietUpon, and_self], hK _ (k _ (ha.put hn _))⟩
/-- A text's byte. -/
theorem run_strAt {T : TypeId} {l : List UInt8} {kk : IntKind} {i : Int} (hT : P.underlying T = some .string) (h0 : 0 ≤ i) (h1 : i < l.length) :
    (Instr.index T (.string ⟨l.toArray⟩) (.int kk i)).run P w = .ok (.int .u8 ((l.getD i.toNat 0).toNat : Int)) w := by
  have hs : (⟨l.toArray⟩ : ByteArray).size = l.length := rfl
  have hlt : i.toNat < l.length := by omega
  have hg : (⟨l.toArray⟩ : ByteArray)[i.toNat]? = some (l.getD i.toNat 0) := by
    rw [getElem?_pos (⟨l.toArray⟩ : ByteArray) i.toNat (show i.toNat < (⟨l.toArray⟩ : ByteArray).size from hlt)]
    show some (l.toArray[i.toNat]'hlt) = _
    simp [List.getD, hlt]
  simp [Instr.index, asIntOf, run_underlying hT, h0, hg]
theorem WL.strAt {T : TypeId} {l : List UInt8} {d : Nat} {kk : IntKind} {i : Int} {x y : Operand} {ty : TypeId} {ps : String} {af : Array Edge} {g : Option (Nat × Bool)} (h0 : 0 ≤ i) (h1 : i < l.length) (hT : P.underlying T = some .string := by kernel_rfl)
    (hw : want ops fr ⟨some d, .index T x y, ty, ps, af, g⟩ = some true := by kernel_rfl) (hx : ev fr x = some (.string ⟨l.toArray⟩) := by kernel_rfl) (hy : ev fr y = some (.int kk i) := by kernel_rfl) (hn : Nat.blt d n.n = true := by kernel_rfl)
    (k : WL P ops n Q rest ((d, .int .u8 ((l.getD i.toNat 0).toNat : Int)) :: fr) w) : WL P ops n Q (⟨some d, .index T x y, ty, ps, af, g⟩ :: rest) fr w :=
  WL.wanted hw fun a ha K hK => by
    unfold Oper.wp
    simp only [execOp, ha.eval hx, ha.eval hy, Sem.run_bind, run_strAt hT h0 h1, Result.andThen_ok, Sem.run_pure, Oper.upon_value]
    exact hK _ _ (k _ (ha.put hn _))
theorem WQ.strAt {T : TypeId} {l : List UInt8} {d : Nat} {kk : IntKind} {i : Int} {x y : Operand} {ty : TypeId} {ps : String} {af : Array Edge} {g : Option (Nat × Bool)} (h0 : 0 ≤ i) (h1 : i < l.length) (hT : P.underlying T = some .string := by kernel_rfl)
    (hw : want ops fr ⟨some d, .index T x y, ty, ps, af, g⟩ = some true := by kernel_rfl) (hx : ev fr x = some (.string ⟨l.toArray⟩) := by kernel_rfl) (hy : ev fr y = some (.int kk i) := by kernel_rfl) (hn : Nat.blt d n.n = true := by kernel_rfl)
    (k : WQ P ops n C Z rest ((d, .int .u8 ((l.getD i.toNat 0).toNat : Int)) :: fr)) : WQ P ops n C Z (⟨some d, .index T x y, ty, ps, af, g⟩ :: rest) fr :=
  WQ.wanted hw fun a ha K hK => ⟨_, fun w _ => by
    unfold Oper.quietAt
    simp only [execOp, ha.eval hx, ha.eval hy, Sem.run_bind, run_strAt hT h0 h1, Result.andThen_ok, Sem.run_pure, Oper.quietUpon, and_self], hK _ (k _ (ha.put hn _))⟩
end
/-! numbers by bits -/
theorem nat_div (a b : Nat) : ((a : Int) / (b : Int)) = ((a / b : Nat) : Int) := (Int.natCast_ediv a b).symm
theorem byte_nat (a : Nat) : IntKind.wrap .u8 (a : Int) = ((UInt8.ofNat (a % 256)).toNat : Int) := by
  rw [IntKind.wrap_u8, u8_toNat_ofNat]; omega
theorem bv_nat (k a : Nat) (h : a < 2 ^ k) : (BitVec.ofInt k (a : Int)).toNat = a := by
  rw [BitVec.toNat_ofInt]
  have : ((a : Int) % ((2 ^ k : Nat) : Int)) = (a : Int) := Int.emod_eq_of_lt (by omega) (by exact_mod_cast h)
  rw [this]; rfl
theorem bits_xor32 {a b : Nat} (ha : a < 4294967296) (hb : b < 4294967296) : bits .xor .u32 (a : Int) (b : Int) = ((a ^^^ b : Nat) : Int) := by
  have e : bits .xor .u32 (a : Int) (b : Int) = IntKind.wrap .u32 (((BitVec.ofInt 32 (a : Int) ^^^ BitVec.ofInt 32 (b : Int)).toNat : Nat) : Int) := rfl
  rw [e, BitVec.toNat_xor, bv_nat 32 a (by simpa using ha), bv_nat 32 b (by simpa using hb)]
  have := xor_lt (k := 32) (a := a) (b := b) (by simpa using ha) (by simpa using hb)
  exact IntWalk.u32_in _ (by omega)
theorem bits_xor8 {a b : Nat} (ha : a < 256) (hb : b < 256) : bits .xor .u8 (a : Int) (b : Int) = ((a ^^^ b : Nat) : Int) := by
  have e : bits .xor .u8 (a : Int) (b : Int) = IntKind.wrap .u8 (((BitVec.ofInt 8 (a : Int) ^^^ BitVec.ofInt 8 (b : Int)).toNat : Nat) : Int) := rfl
  rw [e, BitVec.toNat_xor, bv_nat 8 a (by simpa using ha), bv_nat 8 b (by simpa using hb)]
  have := xor_lt (k := 8) (a := a) (b := b) (by simpa using ha) (by simpa using hb)
  exact IntWalk.u8_in _ (by omega)
theorem or_add {a c : Nat} (hc : c < 256) : (a * 256) ||| c = a * 256 + c := by
  rw [Nat.mul_comm]; exact (Nat.two_pow_add_eq_or_of_lt (i := 8) (by simpa using hc) a).symm
theorem bits_or64 {a c : Nat} (ha : a * 256 < 18446744073709551616) (hc : c < 256) : bits .or .u64 ((a * 256 : Nat) : Int) (c : Int) = ((a * 256 + c : Nat) : Int) := by
  have e : bits .or .u64 ((a * 256 : Nat) : Int) (c : Int) = IntKind.wrap .u64 (((BitVec.ofInt 64 ((a * 256 : Nat) : Int) ||| BitVec.ofInt 64 (c : Int)).toNat : Nat) : Int) := rfl
  rw [e, BitVec.toNat_or, bv_nat 64 _ (by simpa using ha), bv_nat 64 c (by omega), or_add hc]
  exact IntWalk.u64_in _ (by omega)
theorem bits_or32 {a c : Nat} (ha : a * 256 < 4294967296) (hc : c < 256) : bits .or .u32 ((a * 256 : Nat) : Int) (c : Int) = ((a * 256 + c : Nat) : Int) := by
  have e : bits .or .u32 ((a * 256 : Nat) : Int) (c : Int) = IntKind.wrap .u32 (((BitVec.ofInt 32 ((a * 256 : Nat) : Int) ||| BitVec.ofInt 32 (c : Int)).toNat : Nat) : Int) := rfl
  rw [e, BitVec.toNat_or, bv_nat 32 _ (by simpa using ha), bv_nat 32 c (by omega), or_add hc]
  exact IntWalk.u32_in _ (by omega)
theorem bits_and1u {a : Nat} (ha : a < 4294967296) : bits .and .u32 (a : Int) 1 = ((a % 2 : Nat) : Int) := by
  have e : bits .and .u32 (a : Int) 1 = IntKind.wrap .u32 (((BitVec.ofInt 32 (a : Int) &&& BitVec.ofInt 32 1).toNat : Nat) : Int) := rfl
  rw [e, BitVec.toNat_and, bv_nat 32 a (by simpa using ha), show (BitVec.ofInt 32 1).toNat = 1 by decide, Nat.and_one_is_mod]
  exact IntWalk.u32_in _ (by omega)

theorem not32 {a : Nat} (ha : a < 4294967296) : bits .xor .u32 4294967295 (a : Int) = ((4294967295 - a : Nat) : Int) := by
  have e : bits .xor .u32 4294967295 (a : Int) = IntKind.wrap .u32 (((BitVec.ofInt 32 4294967295 ^^^ BitVec.ofInt 32 (a : Int)).toNat : Nat) : Int) := rfl
  rw [e, show BitVec.ofInt 32 4294967295 = BitVec.allOnes 32 by decide, BitVec.allOnes_xor, BitVec.toNat_not, bv_nat 32 a (by simpa using ha)]
  rw [show 2 ^ 32 - 1 - a = 4294967295 - a by omega]
  exact IntWalk.u32_in _ (by omega)
theorem shl64 {a : Nat} (h : a * 256 < 18446744073709551616) : IntKind.wrap .u64 ((a : Int) * 256) = ((a * 256 : Nat) : Int) := by
  rw [IntWalk.u64_in _ (by omega)]; omega
theorem shl32 {a : Nat} (h : a * 256 < 4294967296) : IntKind.wrap .u32 ((a : Int) * 256) = ((a * 256 : Nat) : Int) := by
  rw [IntWalk.u32_in _ (by omega)]; omega
theorem tmod_nat (a b : Nat) : Int.tmod (a : Int) (b : Int) = ((a % b : Nat) : Int) := rfl
theorem tdiv_nat (a b : Nat) : Int.tdiv (a : Int) (b : Int) = ((a / b : Nat) : Int) := rfl
theorem quo64 {a : Nat} (b : Nat) (h : a < 18446744073709551616) : IntKind.wrap .u64 (Int.tdiv (a : Int) (b : Int)) = ((a / b : Nat) : Int) := by
  rw [tdiv_nat]; have := Nat.div_le_self a b; generalize a / b = q at *; exact IntWalk.u64_in _ (by omega)
theorem quo32 {a : Nat} (b : Nat) (h : a < 4294967296) : IntKind.wrap .u32 (Int.tdiv (a : Int) (b : Int)) = ((a / b : Nat) : Int) := by
  rw [tdiv_nat]; have := Nat.div_le_self a b; generalize a / b = q at *; exact IntWalk.u32_in _ (by omega)
theorem mul64 {a b : Nat} (h : a * b < 18446744073709551616) : IntKind.wrap .u64 ((a : Int) * (b : Int)) = ((a * b : Nat) : Int) := by
  rw [← Int.natCast_mul]; exact IntWalk.u64_in _ (by omega)
theorem add64 {a b : Nat} (h : a + b < 18446744073709551616) : IntKind.wrap .u64 ((a : Int) + (b : Int)) = ((a + b : Nat) : Int) := by
  rw [← Int.natCast_add]; exact IntWalk.u64_in _ (by omega)

end Go.Proofs.YtdoenmokahbeaaaGreatDoor
