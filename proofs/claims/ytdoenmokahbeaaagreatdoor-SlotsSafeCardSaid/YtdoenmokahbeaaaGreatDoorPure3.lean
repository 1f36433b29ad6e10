
/- Numbers as bytes, plainly: no Go. -/
import Derived.Lib.BitFns
namespace Go.Proofs.YtdoenmokahbeaaaGreatDoor
open Go

/-- The bytes of a number, the greatest first. -/
def beb (n : Nat) : List UInt8 := if _h : n = 0 then [] else beb (n / 256) ++ [UInt8.ofNat (n % 256)]
termination_by n
decreasing_by omega

/-- A number as it is written. -/
def encNum (n : Nat) : List UInt8 := UInt8.ofNat (beb n).length :: beb n

theorem beb_zero : beb 0 = [] := by rw [beb]; simp
theorem beb_pos {n : Nat} (h : n ≠ 0) : beb n = beb (n / 256) ++ [UInt8.ofNat (n % 256)] := by rw [beb]; simp [h]

theorem bitLen_small : ∀ n : Fin 256, (Lib.bitLen n.val + 7) / 8 = if n.val = 0 then 0 else 1 := by decide +kernel

theorem beb_len (n : Nat) : n < 18446744073709551616 → (beb n).length = (Lib.bitLen n + 7) / 8 := by
  induction n using Nat.strongRecOn with
  | ind n ih =>
    intro h
    by_cases h0 : n = 0
    · subst h0; rw [beb_zero]; rfl
    · rw [beb_pos h0, List.length_append, ih (n / 256) (by omega) (by omega)]
      by_cases h1 : n < 256
      · have := bitLen_small ⟨n, h1⟩
        simp only [h0, if_false] at this
        have e : n / 256 = 0 := by omega
        rw [e, this]; rfl
      · rw [Lib.bitLen_shift8 n (by omega) h]; simp; omega

theorem beb_len_le (n : Nat) : ∀ k, n < 256 ^ k → (beb n).length ≤ k := by
  induction n using Nat.strongRecOn with
  | ind n ih =>
    intro k h
    by_cases h0 : n = 0
    · subst h0; rw [beb_zero]; simp
    · rw [beb_pos h0, List.length_append]
      cases k with
      | zero => simp at h; omega
      | succ k =>
        have := ih (n / 256) (by omega) k (by rw [Nat.pow_succ] at h; exact Nat.div_lt_of_lt_mul (by rw [Nat.mul_comm]; exact h))
        simp; omega

theorem beb_len8 (n : Nat) (h : n < 18446744073709551616) : (beb n).length ≤ 8 := beb_len_le n 8 (by simpa using h)

theorem beb_get (n : Nat) : ∀ i, i < (beb n).length → (beb n)[i]? = some (UInt8.ofNat (n / 256 ^ ((beb n).length - 1 - i) % 256)) := by
  induction n using Nat.strongRecOn with
  | ind n ih =>
    intro i hi
    by_cases h0 : n = 0
    · subst h0; rw [beb_zero] at hi; simp at hi
    · have e := beb_pos h0
      rw [e] at hi ⊢
      simp only [List.length_append, List.length_cons, List.length_nil] at hi ⊢
      by_cases h1 : i < (beb (n / 256)).length
      · rw [List.getElem?_append_left h1, ih (n / 256) (by omega) i h1, Nat.div_div_eq_div_mul]
        have e2 : (beb (n / 256)).length + (0 + 1) - 1 - i = ((beb (n / 256)).length - 1 - i) + 1 := by omega
        rw [e2, Nat.pow_succ, Nat.mul_comm 256]
      · have e2 : i = (beb (n / 256)).length := by omega
        subst e2
        simp

theorem beb_take_succ (n i : Nat) (h : i < (beb n).length) : (beb n).take (i + 1) = (beb n).take i ++ [UInt8.ofNat (n / 256 ^ ((beb n).length - 1 - i) % 256)] := by
  rw [List.take_add_one, beb_get n i h]; rfl

theorem u8_toNat_ofNat (m : Nat) : (UInt8.ofNat (m % 256)).toNat = m % 256 := by
  rw [UInt8.toNat_ofNat']; omega

theorem shr_byte (n m : Nat) : ((n : Int) / 2 ^ (8 * m) % 256) = ((UInt8.ofNat (n / 256 ^ m % 256)).toNat : Int) := by
  have e : ((2 : Int) ^ (8 * m)) = ((256 ^ m : Nat) : Int) := by rw [Int.pow_mul, Int.natCast_pow]; rfl
  rw [u8_toNat_ofNat, e, Int.natCast_emod, Int.natCast_ediv]; rfl

/-- What bytes say as a number. -/
def beval (l : List UInt8) : Nat := l.foldl (fun a c => a * 256 + c.toNat) 0

theorem beval_nil : beval [] = 0 := rfl
theorem beval_snoc (l : List UInt8) (c : UInt8) : beval (l ++ [c]) = beval l * 256 + c.toNat := by simp [beval]
theorem beval_lt (l : List UInt8) : beval l < 256 ^ l.length := by
  rw [← List.reverse_reverse l]
  induction l.reverse with
  | nil => simp [beval]
  | cons c t ih =>
    rw [List.reverse_cons, beval_snoc, List.length_append, List.length_cons, List.length_nil, Nat.pow_succ]
    have := c.toNat_lt
    omega
theorem beval_beb (n : Nat) : beval (beb n) = n := by
  induction n using Nat.strongRecOn with
  | ind n ih =>
    by_cases h0 : n = 0
    · subst h0; rw [beb_zero]; rfl
    · rw [beb_pos h0, beval_snoc, ih (n / 256) (by omega), u8_toNat_ofNat]; omega
theorem beb_beval (l : List UInt8) (h : l.head? ≠ some 0) : beb (beval l) = l := by
  generalize hr : l.reverse = r
  induction r generalizing l with
  | nil =>
    have : l = [] := by simpa using hr
    subst this; rw [beval_nil, beb_zero]
  | cons c t ih =>
    have e : l = t.reverse ++ [c] := by rw [← List.reverse_reverse l, hr, List.reverse_cons]
    subst e
    have h1 : t.reverse.head? ≠ some 0 := by
      intro h2
      apply h
      rw [List.head?_append, h2]; rfl
    have h3 := ih t.reverse h1 (by simp)
    have hc := c.toNat_lt
    have hne : beval (t.reverse ++ [c]) ≠ 0 := by
      rw [beval_snoc]
      intro h0
      have h4 : beval t.reverse = 0 := by omega
      have h5 : c.toNat = 0 := by omega
      rw [h4, beb_zero] at h3
      rw [← h3] at h
      apply h
      have : c = 0 := UInt8.toNat_inj.1 (by simpa using h5)
      simp [this]
    rw [beb_pos hne, beval_snoc]
    have e1 : (beval t.reverse * 256 + c.toNat) / 256 = beval t.reverse := by omega
    have e2 : (beval t.reverse * 256 + c.toNat) % 256 = c.toNat := by omega
    rw [e1, e2, h3]
    simp
theorem beb_head (n : Nat) : (beb n).head? ≠ some 0 := by
  induction n using Nat.strongRecOn with
  | ind n ih =>
    by_cases h0 : n = 0
    · subst h0; rw [beb_zero]; simp
    · rw [beb_pos h0]
      by_cases h1 : n / 256 = 0
      · rw [h1, beb_zero]
        simp only [List.nil_append, List.head?_cons, ne_eq, Option.some.injEq]
        intro h
        have := congrArg UInt8.toNat h
        rw [u8_toNat_ofNat] at this
        simp at this; omega
      · have := ih (n / 256) (by omega)
        cases hb : beb (n / 256) with
        | nil =>
          have h2 := beval_beb (n / 256)
          rw [hb] at h2
          exact absurd h2.symm h1
        | cons a t =>
          rw [hb] at this
          simpa using this

/-- A number ahead of other bytes, at most so great. -/
def decNum (most : Nat) (l : List UInt8) : Option (Nat × List UInt8) :=
  match l with
  | [] => none
  | k :: t => if 8 < k.toNat ∨ t.length < k.toNat then none
    else if (t.take k.toNat).head? = some 0 ∨ most < beval (t.take k.toNat) then none
    else some (beval (t.take k.toNat), t.drop k.toNat)

theorem decNum_some {most : Nat} {l t : List UInt8} {n : Nat} (h : decNum most l = some (n, t)) : l = encNum n ++ t ∧ n ≤ most ∧ n < 18446744073709551616 := by
  cases l with
  | nil => cases h
  | cons k u =>
    simp only [decNum] at h
    split at h
    · cases h
    · rename_i h1
      split at h
      · cases h
      · rename_i h2
        simp only [Option.some.injEq, Prod.mk.injEq] at h
        obtain ⟨rfl, rfl⟩ := h
        have h1a : ¬ 8 < k.toNat := fun x => h1 (.inl x)
        have h1b : ¬ u.length < k.toNat := fun x => h1 (.inr x)
        have h2a : (u.take k.toNat).head? ≠ some 0 := fun x => h2 (.inl x)
        have h2b : ¬ most < beval (u.take k.toNat) := fun x => h2 (.inr x)
        have e := beb_beval _ h2a
        refine ⟨?_, by omega, ?_⟩
        · rw [encNum, e]
          have e3 : UInt8.ofNat (u.take k.toNat).length = k := by
            rw [List.length_take, Nat.min_eq_left (by omega)]; simp
          rw [e3, List.cons_append, List.take_append_drop]
        · have := beval_lt (u.take k.toNat)
          rw [List.length_take, Nat.min_eq_left (by omega)] at this
          have h8 : 256 ^ k.toNat ≤ 256 ^ 8 := Nat.pow_le_pow_right (by omega) (by omega)
          exact Nat.lt_of_lt_of_le this h8

theorem decNum_enc {most n : Nat} (t : List UInt8) (h : n ≤ most) (hn : n < 18446744073709551616) : decNum most (encNum n ++ t) = some (n, t) := by
  have h8 := beb_len8 n hn
  have hk : (UInt8.ofNat (beb n).length).toNat = (beb n).length := by rw [UInt8.toNat_ofNat']; omega
  simp only [encNum, List.cons_append, decNum, hk]
  have e1 : (beb n ++ t).take (beb n).length = beb n := List.take_left
  have e2 : (beb n ++ t).drop (beb n).length = t := List.drop_left
  rw [if_neg (by rw [List.length_append]; omega), e1, e2, beval_beb, if_neg (fun x => x.elim (beb_head n) (by omega))]

theorem decNum_iff {most : Nat} {l t : List UInt8} {n : Nat} : decNum most l = some (n, t) ↔ l = encNum n ++ t ∧ n ≤ most ∧ n < 18446744073709551616 :=
  ⟨decNum_some, fun ⟨h, h1, h2⟩ => h ▸ decNum_enc t h1 h2⟩

theorem encNum_inj {a b : Nat} (ha : a < 18446744073709551616) (hb : b < 18446744073709551616) {s t : List UInt8} (h : encNum a ++ s = encNum b ++ t) : a = b ∧ s = t := by
  have h1 := decNum_enc (most := a + b) s (by omega) ha
  rw [h, decNum_enc t (by omega) hb] at h1
  simp only [Option.some.injEq, Prod.mk.injEq] at h1
  exact ⟨h1.1.symm, h1.2.symm⟩

/-! A reader's calls, plainly: what is left (none: it is bad). -/
def stLen (st : Option (List UInt8)) : Nat := match st with | none => 0 | some l => l.length
def rdNum (most : Nat) (st : Option (List UInt8)) : Nat × Option (List UInt8) :=
  match st with
  | none => (0, none)
  | some l => match decNum most l with
    | none => (0, none)
    | some (n, t) => (n, some t)
def rdInt (most : Int) (st : Option (List UInt8)) : Nat × Option (List UInt8) :=
  if most < 0 then (0, none) else rdNum most.toNat st
def rdText (most : Int) (st : Option (List UInt8)) : List UInt8 × Option (List UInt8) :=
  match (rdInt most st).2 with
  | none => ([], none)
  | some l => if (rdInt most st).1 ≤ l.length then (l.take (rdInt most st).1, some (l.drop (rdInt most st).1)) else ([], none)
def rdFlag (st : Option (List UInt8)) : Bool × Option (List UInt8) := (decide ((rdNum 1 st).1 = 1), (rdNum 1 st).2)

theorem rdNum_none (most : Nat) : rdNum most none = (0, none) := rfl
theorem rdNum_len (most : Nat) (st : Option (List UInt8)) : stLen (rdNum most st).2 ≤ stLen st := by
  unfold rdNum
  split
  · simp [stLen]
  · rename_i l
    split
    · simp [stLen]
    · rename_i n t h
      obtain ⟨rfl, _, _⟩ := decNum_some h
      simp [stLen]
theorem rdNum_le (most : Nat) (st : Option (List UInt8)) : (rdNum most st).1 ≤ most := by
  unfold rdNum
  split
  · simp
  · split
    · simp
    · rename_i n t h
      exact (decNum_some h).2.1
theorem rdInt_len (most : Int) (st : Option (List UInt8)) : stLen (rdInt most st).2 ≤ stLen st := by
  unfold rdInt
  split
  · simp [stLen]
  · exact rdNum_len _ _
theorem rdInt_le (most : Int) (st : Option (List UInt8)) : (rdInt most st).1 ≤ most.toNat := by
  unfold rdInt
  split
  · simp
  · exact rdNum_le _ _
theorem rdText_len (most : Int) (st : Option (List UInt8)) : stLen (rdText most st).2 ≤ stLen st := by
  have h := rdInt_len most st
  unfold rdText
  split
  · simp [stLen]
  · rename_i l hl
    rw [hl] at h
    split
    · simp only [stLen, List.length_drop] at h ⊢
      omega
    · simp [stLen]
theorem rdText_size (most : Int) (st : Option (List UInt8)) : (rdText most st).1.length ≤ stLen st := by
  have h := rdInt_len most st
  unfold rdText
  split
  · simp
  · rename_i l hl
    rw [hl] at h
    split
    · simp only [List.length_take, stLen] at h ⊢
      omega
    · simp
theorem rdFlag_len (st : Option (List UInt8)) : stLen (rdFlag st).2 ≤ stLen st := rdNum_len _ _

end Go.Proofs.YtdoenmokahbeaaaGreatDoor
