
/- Frames: what the walks lean on. -/
import Derived.Test.YtdoenmokahbeaaaGreatDoorFr3
import Derived.Test.YtdoenmokahbeaaaGreatDoorShl
import Derived.Test.YtdoenmokahbeaaaGreatDoorSx8
import Derived.Test.YtdoenmokahbeaaaGreatDoorSg
namespace Go.Proofs.YtdoenmokahbeaaaGreatDoor
open Go.RowKit
set_option linter.unusedVariables false
set_option linter.unusedSimpArgs false

section
variable {P : Program} {n : Md} {fr : List (Nat × Value)} {C : World → Prop}
theorem exec_strAt {T d : Nat} {l : List UInt8} {kk : IntKind} {i : Int} {x y : Operand} {ty : TypeId} {ps : String} {af : Array Edge} {g : Option (Nat × Bool)} (h0 : 0 ≤ i) (h1 : i < l.length) (hT : P.underlying T = some .string := by kernel_rfl) (hx : ev fr x = some (.string ⟨l.toArray⟩) := by kernel_rfl) (hy : ev fr y = some (.int kk i) := by kernel_rfl) :
    ∀ a, FrOk n fr a → ∀ w, C w → (execOp a.eval ⟨some d, .index T x y, ty, ps, af, g⟩).run P w = .ok (.value (.int .u8 ((l.getD i.toNat 0).toNat : Int))) w := fun a ha w hw => by
  simp only [execOp, ha.eval hx, ha.eval hy, Sem.run_bind, run_strAt hT h0 h1, Result.andThen_ok, Sem.run_pure]
end
abbrev u64C (n : Nat) : List Value := [.int .u64 (n : Int)]
theorem ekU64 : EK u64C 1 29 := EK.of (z := .int .u64 0) (bt := 8) (fun _ => rfl) (fun _ => rfl) (by decide) (by kernel_rfl) rfl (by decide)
theorem shr_be {n : Nat} {j : Int} (h0 : 0 ≤ j) (h1 : j ≤ 7) : (n : Int) / 2 ^ (8 * (7 - j)).toNat = ((n / 256 ^ (8 - 1 - j.toNat) : Nat) : Int) := by
  rw [show (8 * (7 - j)).toNat = 8 * (8 - 1 - j.toNat) by omega, Int.natCast_ediv]
  generalize 8 - 1 - j.toNat = k
  have : (2 : Int) ^ (8 * k) = ((256 ^ k : Nat) : Int) := by
    rw [show (256 : Nat) = 2 ^ 8 from rfl, ← Nat.pow_mul]; push_cast; rfl
  rw [this]
theorem bWriteByte_s (b : Nat) (r : Option Nat) (bs : List UInt8) (c : UInt8) (w : World) (h : BuR 138 0 b r bs w) (hl : bs.length ≤ 900000000) :
    Calls Tryz.prog 78 #[.pointer (some ⟨b, 0, none⟩), .int .u8 (c.toNat : Int)] w fun e w' => e = .returned .nilIface ∧ WrPost 138 b r (bs ++ [c]) w w' := sbWriteByte_r _ b r buT_Builder bs c _ rfl w h (by omega)
theorem bString_s (b : Nat) (r : Option Nat) (bs : List UInt8) (w : World) (h : BuR 138 0 b r bs w) (hl : bs.length ≤ 900000000) :
    Calls Tryz.prog 79 #[.pointer (some ⟨b, 0, none⟩)] w fun e w' => e = .returned (.string ⟨bs.toArray⟩) ∧ WrPost 138 b r bs w w' := by
  refine (sbString_r _ 0 b r bs w h (by omega)).mono ?_
  rintro e w' ⟨h1, h2, h3⟩
  exact ⟨h1, r, h2, .inl rfl, h3.mono fun k _ e => .inr e⟩
theorem trim_iff {l : List UInt8} {n m : Nat} (h1 : n ≤ l.length) (hz : ∀ x ∈ l.drop n, x = 0) (ho : n = 0 ∨ ¬ l.getD (n - 1) 0 = 0) (h2 : m ≤ (l.take n).length) (hy : ∀ x ∈ (l.take n).take m, x = 0) : (l.take n).drop m = [] ↔ ∀ x ∈ l, x = 0 := by
  constructor
  · intro e x hx
    have hm : (l.take n).length ≤ m := List.drop_eq_nil_iff.1 e
    rw [← List.take_append_drop n l] at hx
    rcases List.mem_append.1 hx with hx | hx
    · exact hy x (by rw [List.take_of_length_le hm]; exact hx)
    · exact hz x hx
  · intro h
    have : n = 0 := by
      rcases ho with h0 | h0
      · exact h0
      · by_cases hn : n = 0
        · exact hn
        · refine absurd (h _ ?_) h0
          rw [List.getD_eq_getElem?_getD, List.getElem?_eq_getElem (by omega)]
          exact List.getElem_mem _
    subst this; simp
theorem Below.adds {w w' : World} (h : Below w.heap.size w w') : Adds w w' := ⟨h.os, h.tape, h.output, h.size, fun k hk _ => h.block k hk⟩
theorem repeat0_c {x : Int} (h0 : 0 ≤ x) (h1 : x ≤ 1000) (w : World) : Calls Tryz.prog 67 #[.string ⟨#[0]⟩, .int .i64 x] w fun e w' => e = .returned (.string ⟨(List.replicate x.toNat (0 : UInt8)).toArray⟩) ∧ Adds w w' := by
  have h := Tryz.strings_Repeat ⟨#[0]⟩ x.toNat w (by omega) (by show 1 * _ ≤ _; omega)
  rw [show ((x.toNat : Nat) : Int) = x by omega] at h
  refine h.mono ?_
  rintro e w' ⟨h1, h2⟩
  refine ⟨?_, Below.adds h2⟩
  rw [h1]
  congr 4
  show Lib.repeatL [0] x.toNat = _
  generalize x.toNat = n
  induction n with
  | zero => rfl
  | succ n ih => rw [List.replicate_succ, ← ih]; rfl
/-! numbers of eight bytes -/
theorem getD_at (s : List UInt8) (a : Nat) {i : Int} (h0 : 0 ≤ i) : List.getD s ((a : Int) + i).toNat 0 = List.getD (List.drop a s) i.toNat 0 := by
  rw [show ((a : Int) + i).toNat = a + i.toNat by omega]
  simp [List.getD, List.getElem?_drop]
theorem beAt_succ {s : List UInt8} {a : Nat} {i : Int} (h0 : 0 ≤ i) (h1 : a + i < s.length) : beval (List.take i.toNat (List.drop a s)) * 256 + (List.getD s ((a : Int) + i).toNat 0).toNat = beval (List.take (i + 1).toNat (List.drop a s)) := by
  rw [getD_at s a h0]; exact beU_succ h0 (by rw [List.length_drop]; omega)
/-! tags -/
def tgE (s : List UInt8) : Nat := if s.length = 64 then epS s else 0
def tgN (s : List UInt8) : Nat := if s.length = 64 then nuS s else 0
theorem tgE_lt (s : List UInt8) : tgE s < 18446744073709551616 := by unfold tgE; split; exact epS_lt ‹_›; decide
theorem tgN_lt (s : List UInt8) : tgN s < 18446744073709551616 := by unfold tgN; split; exact nuS_lt ‹_›; decide
theorem tgE_no {s : List UInt8} (h : ¬ s.length = 64) : tgE s = 0 := if_neg h
theorem tgN_no {s : List UInt8} (h : ¬ s.length = 64) : tgN s = 0 := if_neg h
theorem tgE_ok {s : List UInt8} (h : s.length = 64) : tgE s = beval (List.take 8 (List.drop 48 s)) := if_pos h
theorem tgN_ok {s : List UInt8} (h : s.length = 64) : tgN s = beval (List.take 8 (List.drop 56 s)) := by rw [tgN, if_pos h, nuS, List.take_of_length_le (l := List.drop 56 s) (by simp [h])]
theorem tgN_ok' {s : List UInt8} (h : s.length = 64) : tgN s = beval (List.drop 56 s) := if_pos h
theorem take8 {l : List UInt8} {i : Int} (h : i = 8) : List.take i.toNat l = List.take 8 l := by subst h; rfl
/-! making -/
def mk0 (p : List UInt8) (e n : Nat) : List UInt8 := UInt8.ofNat p.length :: (be 4 (crc (p ++ tagsS e n)) ++ p)
theorem mk0_len (p : List UInt8) (e n : Nat) : (mk0 p e n).length = 5 + p.length := by simp [mk0, be_len]; omega
theorem mk0_end {p : List UInt8} {e n : Nat} {j : Nat} (h : j = 43 - p.length) : mk0 p e n ++ List.replicate j 0 ++ tagsS e n = makeS p e n := by subst h; simp [mk0, makeS]
/-! reading -/
def rdP (s : List UInt8) : List UInt8 := if isCell s then payS s else []
def rdE (s : List UInt8) : Nat := if isCell s then epS s else 0
def rdN (s : List UInt8) : Nat := if isCell s then nuS s else 0
theorem rdP_len (s : List UInt8) : (rdP s).length ≤ 43 := by
  unfold rdP; split
  · next h => have := h.2.1; simp only [payS, List.length_take]; omega
  · simp
theorem rdE_lt (s : List UInt8) : rdE s < 18446744073709551616 := by unfold rdE; split; exact epS_lt (‹isCell s›).1; decide
theorem rdN_lt (s : List UInt8) : rdN s < 18446744073709551616 := by unfold rdN; split; exact nuS_lt (‹isCell s›).1; decide

end Go.Proofs.YtdoenmokahbeaaaGreatDoor
