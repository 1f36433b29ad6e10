
/- A table is read, plainly. -/
import Derived.Test.YtpkcohhfkeinmaaSt1b
namespace Go.Proofs.Ytpkcohhfkeinmaa
open Go.RowKit
set_option linter.unusedVariables false
set_option linter.unusedSimpArgs false

def rdRow (s : Option (List UInt8)) : GRow × Option (List UInt8) :=
  (⟨⟨((rdInt 1023 s).1 : Nat), ((rdNum 2147483648 (rdInt 1023 s).2).1 : Nat), ((rdNum 2147483648 (rdNum 2147483648 (rdInt 1023 s).2).2).1 : Nat), ((rdNum 2147483648 (rdNum 2147483648 (rdNum 2147483648 (rdInt 1023 s).2).2).2).1 : Nat), ((rdInt 15 (rdNum 2147483648 (rdNum 2147483648 (rdNum 2147483648 (rdInt 1023 s).2).2).2).2).1 : Nat)⟩, (rdFlag (rdInt 15 (rdNum 2147483648 (rdNum 2147483648 (rdNum 2147483648 (rdInt 1023 s).2).2).2).2).2).1⟩, (rdFlag (rdInt 15 (rdNum 2147483648 (rdNum 2147483648 (rdNum 2147483648 (rdInt 1023 s).2).2).2).2).2).2)
theorem rdRow_eq {s s1 s2 s3 s4 s5 s6 : Option (List UInt8)} {a c d t m : Nat} {f : Bool} (q1 : rdInt 1023 s = (a, s1)) (q2 : rdNum 2147483648 s1 = (c, s2)) (q3 : rdNum 2147483648 s2 = (d, s3)) (q4 : rdNum 2147483648 s3 = (t, s4)) (q5 : rdInt 15 s4 = (m, s5)) (q6 : rdFlag s5 = (f, s6)) : rdRow s = (⟨⟨a, c, d, t, m⟩, f⟩, s6) := by
  simp only [rdRow, q1, q2, q3, q4, q5, q6]
theorem rdFlag_none : (rdFlag none).2 = none := rfl
theorem rdRow_none : (rdRow none).2 = none := rfl
theorem rdRow_bwd {s : Option (List UInt8)} {r : GRow} {t : List UInt8} (h : rdRow s = (r, some t)) : s = some (r.enc ++ t) := by
  simp only [rdRow, Prod.mk.injEq] at h
  obtain ⟨rfl, h6⟩ := h
  have e6 := rdFlag_bwd (Prod.ext rfl h6)
  have e5 := rdInt_bwd (Prod.ext rfl e6)
  have e4 := rdNum_bwd (Prod.ext rfl e5)
  have e3 := rdNum_bwd (Prod.ext rfl e4)
  have e2 := rdNum_bwd (Prod.ext rfl e3)
  have e1 := rdInt_bwd (Prod.ext rfl e2)
  refine e1.trans ?_
  simp only [GRow.enc, Int.toNat_natCast, List.append_assoc]
def rdRows : Nat → Option (List UInt8) → List GRow × Option (List UInt8)
  | 0, s => ([], s)
  | k + 1, s => ((rdRow s).1 :: (rdRows k (rdRow s).2).1, (rdRows k (rdRow s).2).2)
theorem rdRows_none : ∀ k, (rdRows k none).2 = none
  | 0 => rfl
  | k + 1 => by rw [rdRows, rdRow_none]; exact rdRows_none k
theorem rdRows_bwd : ∀ {k : Nat} {s : Option (List UInt8)} {rows : List GRow} {t : List UInt8}, rdRows k s = (rows, some t) → s = some (encRows rows ++ t) ∧ rows.length = k
  | 0, s, rows, t, h => by
    simp only [rdRows, Prod.mk.injEq] at h
    obtain ⟨rfl, h⟩ := h
    exact ⟨by simpa [encRows] using h, rfl⟩
  | k + 1, s, rows, t, h => by
    simp only [rdRows, Prod.mk.injEq] at h
    obtain ⟨rfl, h⟩ := h
    obtain ⟨h1, h2⟩ := rdRows_bwd (k := k) (s := (rdRow s).2) (rows := (rdRows k (rdRow s).2).1) (t := t) (Prod.ext rfl h)
    have h3 := rdRow_bwd (s := s) (r := (rdRow s).1) (Prod.ext rfl h1)
    refine ⟨?_, by rw [List.length_cons, h2]⟩
    refine h3.trans ?_
    simp [encRows]
def rdI (n : Nat) (s0 : Option (List UInt8)) (i : Int) (done : List GRow) (s : Option (List UInt8)) : Prop := rdRows n s0 = (done ++ (rdRows (n - i.toNat) s).1, (rdRows (n - i.toNat) s).2)
theorem rdI_zero (n : Nat) (s : Option (List UInt8)) : rdI n s 0 [] s := by simp [rdI]
theorem rdI_succ {n : Nat} {s0 s s' : Option (List UInt8)} {i : Int} {done : List GRow} {r : GRow} (h0 : 0 ≤ i) (h1 : i < n) (h : rdI n s0 i done s) (hr : rdRow s = (r, s')) : rdI n s0 (i + 1) (done ++ [r]) s' := by
  unfold rdI at *
  rw [h, show n - i.toNat = (n - (i + 1).toNat) + 1 by omega, rdRows, hr]
  simp
theorem rdI_end {n : Nat} {s0 s : Option (List UInt8)} {i : Int} {done : List GRow} (h : rdI n s0 i done s) (h1 : (n : Int) ≤ i) : rdRows n s0 = (done, s) := by
  unfold rdI at h
  rw [h, show n - i.toNat = 0 by omega, rdRows]; simp
theorem rdI_bad {n : Nat} {s0 s : Option (List UInt8)} {i : Int} {done : List GRow} (h : rdI n s0 i done s) (hs : s.isSome = false) : (rdRows n s0).2 = none := by
  unfold rdI at h
  cases s with
  | none => rw [h]; exact rdRows_none _
  | some l => simp at hs
noncomputable def readT (l : List UInt8) : GTable × Int :=
  if (rdRows (rdInt 16 (rdInt 3 (some l)).2).1 (rdInt 16 (rdInt 3 (some l)).2).2).2 = some [] ∧ tokB ⟨(rdRows (rdInt 16 (rdInt 3 (some l)).2).1 (rdInt 16 (rdInt 3 (some l)).2).2).1, ((rdInt 3 (some l)).1 : Nat)⟩ = true
  then (⟨(rdRows (rdInt 16 (rdInt 3 (some l)).2).1 (rdInt 16 (rdInt 3 (some l)).2).2).1, ((rdInt 3 (some l)).1 : Nat)⟩, 0) else (GTable.zero, 10)
section
variable {l : List UInt8} {m n : Nat} {s1 s2 s : Option (List UInt8)} {done : List GRow} {i : Int}
theorem readT_eq (q1 : rdInt 3 (some l) = (m, s1)) (q2 : rdInt 16 s1 = (n, s2)) : readT l = if (rdRows n s2).2 = some [] ∧ tokB ⟨(rdRows n s2).1, m⟩ = true then (⟨(rdRows n s2).1, m⟩, 0) else (GTable.zero, 10) := by
  simp only [readT, q1, q2]
theorem readT_bad (q1 : rdInt 3 (some l) = (m, s1)) (q2 : rdInt 16 s1 = (n, s2)) (h : rdI n s2 i done s) (hs : s.isSome = false) : readT l = (GTable.zero, 10) := by
  rw [readT_eq q1 q2, if_neg]
  rw [rdI_bad h hs]; simp
theorem readT_end (q1 : rdInt 3 (some l) = (m, s1)) (q2 : rdInt 16 s1 = (n, s2)) (h : rdI n s2 i done s) (h1 : (n : Int) ≤ i) : readT l = if s = some [] ∧ tokB ⟨done, m⟩ = true then (⟨done, m⟩, 0) else (GTable.zero, 10) := by
  rw [readT_eq q1 q2, rdI_end h h1]
theorem read_back (q1 : rdInt 3 (some l) = (m, s1)) (q2 : rdInt 16 s1 = (n, s2)) (h : rdI n s2 i done s) (h1 : (n : Int) ≤ i) (hs : s = some []) : GTable.enc ⟨done, m⟩ = l := by
  subst hs
  obtain ⟨e1, e2⟩ := rdRows_bwd (rdI_end h h1)
  subst e1
  have e3 := rdInt_bwd q2
  subst e3
  have e4 := rdInt_bwd q1
  simp only [Option.some.injEq, List.append_nil] at e4
  rw [e4, GTable.enc, e2]
  simp
theorem readT_len (l : List UInt8) : (readT l).1.rows.length ≤ 16 := by
  unfold readT
  split
  · rename_i h; exact (tok_t h.2).2.1
  · simp [GTable.zero]
end

theorem bytesE_ok {t : GTable} (h : bytesE t = 0) : tokB t = true := by
  unfold bytesE at h
  split at h
  · assumption
  · simp at h
theorem bytesE_no {t : GTable} (h : bytesE t ≠ 0) : tokB t = false := by
  unfold bytesE at h
  split at h
  · simp at h
  · rename_i h'; simpa using h'
theorem bytesT_ok {t : GTable} (h : tokB t = true) : bytesT t = t.enc := by unfold bytesT; rw [if_pos h]
theorem bytesT_len (t : GTable) : (bytesT t).length ≤ 900 := by
  unfold bytesT
  split
  · rename_i h
    have := encU_len (rows := t.rows) (md := t.mode) (tok_t h) t.rows.length
    rwa [encU_end (by omega)] at this
  · simp
theorem qr_bad {P : Program} {T : TypeId} {b : Nat} {st : Option (List UInt8)} {w : World} (h : QrAt b st w) (hT : scT P T = true := by kernel_rfl) : (loadVar T ⟨b, 1, none⟩).run P w = .ok (.bool (!(st.isSome))) w := by
  cases st with
  | some l => exact ld1 h hT rfl
  | none => obtain ⟨s, h⟩ := h; exact ld1 h hT rfl

end Go.Proofs.Ytpkcohhfkeinmaa
